/- W19: a part of the proof of WheelPlays: lemmas on the evaluator and on the functions that the law reaches. -/
import Derived.Test.YtlagbbfgaanpcaaW17
set_option maxRecDepth 100000
set_option linter.unusedVariables false
namespace Wh
open Go TE Go.Proofs
def isF (a b : Int) (e : Timer) : Bool := (e.f.inst == a) && ((e.f.timer == b) && true)
theorem isF_iff (a b : Int) (e : Timer) : isF a b e = decide (e.f = ⟨a, b⟩) := by
  unfold isF
  rw [Bool.eq_iff_iff]
  simp only [Bool.and_eq_true, beq_iff_eq, and_true, decide_eq_true_eq]
  constructor
  · rintro ⟨h1, h2⟩; exact fired_ext h1 h2
  · intro h; rw [h]; exact ⟨rfl, rfl⟩
theorem take_snoc' {α : Type} (l : List α) (i : Nat) (h : i < l.length) : l.take (i + 1) = l.take i ++ [l[i]] := List.take_succ_eq_append_getElem h
theorem filter_snoc {α : Type} (p : α → Bool) (l : List α) (i : Nat) (h : i < l.length) : (l.take (i + 1)).filter p = (l.take i).filter p ++ if p l[i] = true then [l[i]] else [] := by
  rw [take_snoc' l i h, List.filter_append]
  congr 1
  by_cases hp : p l[i] = true <;> simp [hp]
theorem flen {α : Type} (p : α → Bool) (l : List α) (i : Nat) : ((l.take i).filter p).length ≤ l.length :=
  Nat.le_trans (List.length_filter_le _ _) (by rw [List.length_take]; omega)
theorem f18_eq {R : Type} (N : Nat) (a b : Int) (l : List Timer) (hN : l.length < N) (hl : l.length ≤ 1000) (k : Bool → List Timer → Option R) :
    f18 N a b l k = k (decide (((((l.filter fun e => !isF a b e).length : Nat) : Int)) < ((l.length : Nat) : Int))) (l.filter fun e => !isF a b e) := by
  unfold f18
  have key : ∀ (n i : Nat), i ≤ l.length → l.length < n + i → f18_l0 N l a b (fun (y14 : List Timer) => k (decide (((y14.length : Nat) : Int) < ((l.length : Nat) : Int))) y14) n i ((l.take i).filter fun e => !isF a b e) =
      k (decide (((((l.filter fun e => !isF a b e).length : Nat) : Int)) < ((l.length : Nat) : Int))) (l.filter fun e => !isF a b e) := by
    intro n
    induction n with
    | zero => intro i h1 h2; omega
    | succ n ih =>
      intro i h1 h2
      show f18_l0_b N l a b _ (f18_l0 N l a b _ n) i _ = _
      unfold f18_l0_b
      by_cases hi : i < l.length
      · rw [if_pos (by simpa using hi), at_get l i hi]
        simp only [Option.bind_some]
        have hf := filter_snoc (fun e => !isF a b e) l i hi
        have hlen := flen (fun e => !isF a b e) l i
        rw [wsucc i (by omega)]
        by_cases hp : isF a b l[i] = true
        · rw [if_neg (by show ¬ (!isF a b l[i]) = true; rw [hp]; simp)]
          rw [if_neg (by rw [hp]; simp), List.append_nil] at hf
          rw [← hf]
          exact ih (i + 1) (by omega) (by omega)
        · rw [if_pos (by show (!isF a b l[i]) = true; simpa using hp), if_pos (by simp only [List.length_cons, List.length_nil, maxRow]; omega)]
          rw [if_pos (by simpa using hp)] at hf
          rw [← hf]
          exact ih (i + 1) (by omega) (by omega)
      · have : i = l.length := by omega
        subst this
        rw [if_neg (by simp), List.take_length]
  exact key N 0 (by omega) (by omega)
theorem f19_eq {R : Type} (N : Nat) (g : Int) (l : List Timer) (hN : l.length < N) (hl : l.length ≤ 1000) (k : Int → List Timer → Option R) :
    f19 N g l k = k (IntKind.wrap .i64 (((l.length : Nat) : Int) - (((l.filter fun e => e.f.inst != g).length : Nat) : Int))) (l.filter fun e => e.f.inst != g) := by
  unfold f19
  have key : ∀ (n i : Nat), i ≤ l.length → l.length < n + i → f19_l0 N g l (fun (y12 : List Timer) => k (IntKind.wrap .i64 (((l.length : Nat) : Int) - ((y12.length : Nat) : Int))) y12) n i ((l.take i).filter fun e => e.f.inst != g) =
      k (IntKind.wrap .i64 (((l.length : Nat) : Int) - (((l.filter fun e => e.f.inst != g).length : Nat) : Int))) (l.filter fun e => e.f.inst != g) := by
    intro n
    induction n with
    | zero => intro i h1 h2; omega
    | succ n ih =>
      intro i h1 h2
      show f19_l0_b N g l _ (f19_l0 N g l _ n) i _ = _
      unfold f19_l0_b
      by_cases hi : i < l.length
      · rw [if_pos (by simpa using hi), at_get l i hi]
        simp only [Option.bind_some]
        have hf := filter_snoc (fun e : Timer => e.f.inst != g) l i hi
        have hlen := flen (fun e : Timer => e.f.inst != g) l i
        rw [wsucc i (by omega)]
        by_cases hp : (l[i].f.inst != g) = true
        · rw [if_pos hp, if_pos (by simp only [List.length_cons, List.length_nil, maxRow]; omega)]
          rw [if_pos hp] at hf
          rw [← hf]
          exact ih (i + 1) (by omega) (by omega)
        · rw [if_neg hp]
          rw [if_neg hp, List.append_nil] at hf
          rw [← hf]
          exact ih (i + 1) (by omega) (by omega)
      · have : i = l.length := by omega
        subst this
        rw [if_neg (by simp), List.take_length]
  exact key N 0 (by omega) (by omega)
def decT (e : Timer) : Timer := ⟨e.f, dec1 e.left⟩
theorem f20_eq {R : Type} (N : Nat) (l : List Timer) (hN : l.length < N) (hl : l.length ≤ 1000) (k : List Fired → List Timer → Option R) :
    f20 N l k = k ((l.filter fun e => e.left == 1).map (·.f)) ((l.filter fun e => !(e.left == 1)).map decT) := by
  unfold f20
  have key : ∀ (n i : Nat), i ≤ l.length → l.length < n + i → f20_l0 N l (fun (y20 : List Timer) (y21 : List Fired) => k y21 y20) n i (((l.take i).filter fun e => !(e.left == 1)).map decT) (((l.take i).filter fun e => e.left == 1).map (·.f)) =
      k ((l.filter fun e => e.left == 1).map (·.f)) ((l.filter fun e => !(e.left == 1)).map decT) := by
    intro n
    induction n with
    | zero => intro i h1 h2; omega
    | succ n ih =>
      intro i h1 h2
      simp only [f20_l0, f20_l0_b]
      by_cases hi : i < l.length
      · rw [if_pos (by simpa using hi), at_get l i hi]
        simp only [Option.bind_some]
        have hf1 := filter_snoc (fun e : Timer => e.left == 1) l i hi
        have hf2 := filter_snoc (fun e : Timer => !(e.left == 1)) l i hi
        have hlen1 := flen (fun e : Timer => e.left == 1) l i
        have hlen2 := flen (fun e : Timer => !(e.left == 1)) l i
        rw [wsucc i (by omega)]
        by_cases hp : (l[i].left == 1) = true
        · rw [if_pos hp, if_pos (by simp only [List.length_map, List.length_cons, List.length_nil, maxRow]; omega)]
          rw [if_pos hp] at hf1
          rw [if_neg (by rw [hp]; simp), List.append_nil] at hf2
          have := ih (i + 1) (by omega) (by omega)
          rw [hf1, hf2, List.map_append] at this
          exact this
        · rw [if_neg hp, if_pos (by simp only [List.length_map, List.length_cons, List.length_nil, maxRow]; omega)]
          rw [if_neg hp, List.append_nil] at hf1
          rw [if_pos (by simpa using hp)] at hf2
          have := ih (i + 1) (by omega) (by omega)
          rw [hf1, hf2, List.map_append] at this
          exact this
      · have : i = l.length := by omega
        subst this
        rw [if_neg (by simp), List.take_length]
  exact key N 0 (by omega) (by omega)
def cont (X : List Timer) : Cont := X.map fun t => (t.f, t.left)
theorem f22_eq {R : Type} (N : Nat) (a b : Int) (l : List Timer) (hN : l.length < N) (hl : l.length ≤ 1000) (k : Int → Bool → Option R) :
    f22 N a b l k = k ((lk ⟨a, b⟩ (cont l)).getD 0) (lk ⟨a, b⟩ (cont l)).isSome := by
  unfold f22
  have key : ∀ (n i : Nat), i ≤ l.length → l.length < n + i → f22_l0 N l a b (fun (y7 : Int) (y8 : Bool) => k y7 y8) (k 0 false) n i = k ((lk ⟨a, b⟩ (cont (l.drop i))).getD 0) (lk ⟨a, b⟩ (cont (l.drop i))).isSome := by
    intro n
    induction n with
    | zero => intro i h1 h2; omega
    | succ n ih =>
      intro i h1 h2
      show f22_l0_b N l a b _ _ (f22_l0 N l a b _ _ n) i = _
      unfold f22_l0_b
      by_cases hi : i < l.length
      · rw [if_pos (by simpa using hi), at_get l i hi]
        simp only [Option.bind_some]
        have hd : l.drop i = l[i] :: l.drop (i + 1) := List.drop_eq_getElem_cons hi
        rw [hd, wsucc i (by omega)]
        unfold lk cont
        rw [List.map_cons, List.find?_cons]
        have hp := isF_iff a b l[i]
        by_cases hq : l[i].f = ⟨a, b⟩
        · rw [if_pos (by show isF a b l[i] = true; rw [hp]; simpa using hq)]
          simp [hq]
        · rw [if_neg (by show ¬ isF a b l[i] = true; rw [hp]; simpa using hq)]
          simp only [hq, decide_false]
          exact ih (i + 1) (by omega) (by omega)
      · have : i = l.length := by omega
        subst this
        rw [if_neg (by simp), List.drop_length]
        rfl
  have := key N 0 (by omega) (by omega)
  rw [List.drop_zero] at this
  exact this
def leastT (m : Int) (l : List Timer) : Int := l.foldl (fun m e => if e.left < m then e.left else m) m
theorem leastT_le (L : List Timer) : ∀ m, leastT m L ≤ m ∧ (∀ t ∈ L, leastT m L ≤ t.left) ∧ (leastT m L = m ∨ ∃ t ∈ L, leastT m L = t.left) := by
  induction L with
  | nil => intro m; exact ⟨Int.le_refl _, by simp, .inl rfl⟩
  | cons x r ih =>
    intro m
    obtain ⟨h1, h2, h3⟩ := ih (if x.left < m then x.left else m)
    have e : leastT m (x :: r) = leastT (if x.left < m then x.left else m) r := rfl
    rw [e]
    have hm1 : (if x.left < m then x.left else m) ≤ m := by split <;> omega
    have hm2 : (if x.left < m then x.left else m) ≤ x.left := by split <;> omega
    refine ⟨Int.le_trans h1 hm1, fun t ht => ?_, ?_⟩
    · rcases List.mem_cons.1 ht with e1 | ht
      · rw [e1]; exact Int.le_trans h1 hm2
      · exact h2 t ht
    · rcases h3 with h | ⟨t, ht, h⟩
      · rw [h]
        split
        · exact .inr ⟨x, by simp, rfl⟩
        · exact .inl rfl
      · exact .inr ⟨t, List.mem_cons_of_mem _ ht, h⟩
theorem f24_eq {R : Type} (N : Nat) (x : Timer) (r : List Timer) (hN : r.length + 1 < N) (hl : r.length ≤ 1000) (k : Int → Bool → Option R) : f24 N (x :: r) k = k (leastT x.left r) true := by
  unfold f24
  rw [if_neg (by simp; omega)]
  have h0 : at? (x :: r) 0 = some x := rfl
  rw [h0]
  simp only [Option.bind_some]
  have key : ∀ (n i : Nat) (m : Int), 1 ≤ i → i ≤ r.length + 1 → r.length + 1 < n + i → f24_l0 N (x :: r) (fun (y6 : Int) => k y6 true) n m i = k (leastT m ((x :: r).drop i)) true := by
    intro n
    induction n with
    | zero => intro i m h1 h2 h3; omega
    | succ n ih =>
      intro i m h1 h2 h3
      simp only [f24_l0, f24_l0_b]
      by_cases hi : i < (x :: r).length
      · rw [if_pos (by simp at hi ⊢; omega), at_get (x :: r) i hi]
        simp only [Option.bind_some]
        have hd : (x :: r).drop i = (x :: r)[i] :: (x :: r).drop (i + 1) := List.drop_eq_getElem_cons hi
        have hi' : i < r.length + 1 := hi
        rw [hd, wsucc i (by omega)]
        exact ih (i + 1) _ (by omega) (by omega) (by omega)
      · have : i = (x :: r).length := by simp at hi ⊢; omega
        subst this
        rw [if_neg (by simp), List.drop_length]
        rfl
  exact key N 1 x.left (by omega) (by omega) (by omega)
def insT (f : Fired) (n : Int) : List Timer → List Timer
  | [] => [⟨f, n⟩]
  | e :: r => if ltF f e.f = true then ⟨f, n⟩ :: e :: r else e :: insT f n r
theorem f16_loop {R : Type} (N : Nat) (a b n : Int) (l : List Timer) (hl : l.length ≤ 1000) (k0 : Int → List Timer → Option R) :
    ∀ (m i : Nat) (put : Bool) (acc : List Timer), i ≤ l.length → l.length < m + i → acc.length ≤ i + put.toNat →
      f16_l0 N n l a b (fun (y28 : Bool) (y29 : List Timer) => if (!y28) = true then (if y29.length + [(⟨(⟨a, b⟩ : Fired), n⟩ : Timer)].length ≤ maxRow then (k0 0 (y29 ++ [(⟨(⟨a, b⟩ : Fired), n⟩ : Timer)])) else none) else (k0 0 y29)) m put i acc =
        k0 0 (acc ++ if put = true then l.drop i else insT ⟨a, b⟩ n (l.drop i)) := by
  intro m
  induction m with
  | zero => intro i put acc h1 h2; omega
  | succ m ih =>
    intro i put acc h1 h2 h3
    simp only [f16_l0, f16_l0_b]
    by_cases hi : i < l.length
    · rw [if_pos (by simpa using hi), at_get l i hi]
      simp only [Option.bind_some]
      have hd : l.drop i = l[i] :: l.drop (i + 1) := List.drop_eq_getElem_cons hi
      rw [hd, wsucc i (by omega), f13_eq, ifB_tf]
      cases put with
      | true =>
        simp only [Bool.toNat_true] at h3
        simp only [Bool.not_true, Bool.false_eq_true, if_false, Option.bind_some, if_true]
        rw [if_pos (by simp only [List.length_cons, List.length_nil, maxRow]; omega), ih (i + 1) true _ (by omega) (by omega) (by simp; omega), if_pos rfl, List.append_assoc]
        rfl
      | false =>
        simp only [Bool.toNat_false] at h3
        simp only [Bool.not_false, if_true, Bool.false_eq_true, if_false, Option.bind_some, insT]
        by_cases hp : ltF ⟨a, b⟩ l[i].f = true
        · rw [if_pos hp, if_pos hp, if_pos (by simp only [List.length_cons, List.length_nil, maxRow]; omega), if_pos (by simp only [List.length_append, List.length_cons, List.length_nil, maxRow]; omega), ih (i + 1) true _ (by omega) (by omega) (by simp; omega), if_pos rfl]
          simp
        · have hp' : ¬ ltF ⟨a, b⟩ ⟨l[i].f.inst, l[i].f.timer⟩ = true := hp
          rw [if_neg hp, if_neg hp', if_pos (by simp only [List.length_cons, List.length_nil, maxRow]; omega), ih (i + 1) false _ (by omega) (by omega) (by simp; omega), if_neg (by simp)]
          simp
    · have : i = l.length := by omega
      subst this
      rw [if_neg (by simp), List.drop_length]
      cases put with
      | true => simp
      | false =>
        simp only [Bool.toNat_false] at h3
        simp only [Bool.not_false, if_true, Bool.false_eq_true, if_false, insT]
        rw [if_pos (by simp only [List.length_cons, List.length_nil, maxRow]; omega)]
end Wh
