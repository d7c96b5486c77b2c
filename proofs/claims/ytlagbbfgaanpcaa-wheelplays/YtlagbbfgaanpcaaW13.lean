/- W13: a part of the proof of WheelPlays: lemmas on the evaluator and on the functions that the law reaches. -/
import Derived.Test.YtlagbbfgaanpcaaW12
set_option maxRecDepth 100000
set_option linter.unusedVariables false
namespace Wh
open Go TE Go.Proofs
def one (v : Int) (s : Nat) : ML := [(keyOf ⟨3, 1⟩, v, s)]
theorem dec1_eq {v : Int} (h1 : 0 ≤ v) (h2 : v ≤ 100000) : dec1 v = v - 1 := wr _ (by omega) (by omega)
theorem srt_nil : srt [] = [] := srt_of (List.Perm.refl _) List.Pairwise.nil
theorem srt_one (f : Fired) : srt [f] = [f] := srt_of (List.Perm.refl _) (by simp)
theorem tickF_nil : tickF [] = [] := srt_nil
theorem tickL_nil : tickL [] = [] := rfl
theorem tickF_one (s : Nat) : tickF (one 1 s) = [⟨3, 1⟩] := srt_one _
theorem tickL_one (s : Nat) : tickL (one 1 s) = [] := rfl
theorem tickF_more {v : Int} (s : Nat) (h : v ≠ 1) : tickF (one v s) = [] := by
  unfold tickF one
  rw [List.filter_cons_of_neg (by simpa using h)]
  exact srt_nil
theorem tickL_more {v : Int} (s : Nat) (h : v ≠ 1) (h1 : 0 ≤ v) (h2 : v ≤ 100000) : tickL (one v s) = one (v - 1) s := by
  unfold tickL one
  rw [List.filter_cons_of_pos (by simpa using h)]
  show [tk (keyOf ⟨3, 1⟩, v, s)] = _
  unfold tk
  rw [if_neg (by simpa using h), dec1_eq h1 h2]
theorem one_len (v : Int) (s : Nat) : (one v s).length ≤ 1000 := by simp [one]

theorem f3_loop0 {R : Type} {N : Nat} {a b j : Int} {s s' : Nat} {c d : Int} {kp0 : Bool → Option R} {kp1 : ML → Bool → Option R} {r : Option R} {k : Int} (hj0 : 0 ≤ j) (hj : j < k) (hk : k ≤ 60) (h : ∀ e, kp1 (one (k - j) s') e = r) :
    ∀ (n : Nat) (i : Nat) (e : Bool), (i : Int) ≤ j → j - i < n → f3_l0 N a b j s c d kp0 kp1 n i (one (k - i) s') e = r := by
  intro n
  induction n with
  | zero => intro i e h1 h2; omega
  | succ n ih =>
    intro i e h1 h2
    show f3_l0_b N a b j s c d kp0 kp1 (f3_l0 N a b j s c d kp0 kp1 n) i (one (k - i) s') e = r
    unfold f3_l0_b
    by_cases hi : (i : Int) < j
    · rw [if_pos (by simpa using hi), if_pos (one_len _ _), tickF_more s' (by omega), if_neg (by simp), wr _ (by omega) (by omega), tickL_more s' (by omega) (by omega) (by omega)]
      have := ih (i + 1) false (by omega) (by omega)
      rw [show (k - (i : Int) - 1) = k - ((i + 1 : Nat) : Int) by omega, show ((i : Int) + 1) = ((i + 1 : Nat) : Int) by omega]
      exact this
    · have : (i : Int) = j := by omega
      rw [if_neg (by simpa using hi), this]
      exact h e

theorem f3_loop2b {R : Type} {N : Nat} {at_ : Int} {s : Nat} {kp0 : Bool → Option R} {kp1 : ML → Bool → Option R} {r : Option R} (h : ∀ e, kp1 [] e = r) :
    ∀ (n : Nat) (i : Nat) (e : Bool), at_ < i → (i : Int) ≤ 131 → 131 - (i : Int) < n → f3_l2 N at_ s 3 1 kp0 kp1 n i [] e = r := by
  intro n
  induction n with
  | zero => intro i e h1 h2 h3; omega
  | succ n ih =>
    intro i e h1 h2 h3
    show f3_l2_b N at_ s 3 1 kp0 kp1 (f3_l2 N at_ s 3 1 kp0 kp1 n) i [] e = r
    unfold f3_l2_b
    by_cases hi : (i : Int) ≤ 130
    · have e1 : ((i : Int) == at_) = false := by simp; omega
      rw [if_pos (by simpa using hi), if_pos (by simp), tickF_nil, tickL_nil, e1, wr _ (by omega) (by omega)]
      have := ih (i + 1) false (by omega) (by omega) (by omega)
      simp only [List.length_nil]
      rw [show ((i : Int) + 1) = ((i + 1 : Nat) : Int) by omega]
      simpa [ifB_ff, ifB_tf] using this
    · rw [if_neg (by simpa using hi)]
      exact h e
theorem f3_loop2a {R : Type} {N : Nat} {at_ : Int} {s s' : Nat} {kp0 : Bool → Option R} {kp1 : ML → Bool → Option R} {r : Option R} (ha : at_ ≤ 60) (h : ∀ e, kp1 [] e = r) :
    ∀ (n : Nat) (i : Nat) (e : Bool), 1 ≤ i → (i : Int) ≤ at_ → 131 - (i : Int) < n → f3_l2 N at_ s 3 1 kp0 kp1 n i (one (at_ - i + 1) s') e = r := by
  intro n
  induction n with
  | zero => intro i e h1 h2 h3; omega
  | succ n ih =>
    intro i e h1 h2 h3
    show f3_l2_b N at_ s 3 1 kp0 kp1 (f3_l2 N at_ s 3 1 kp0 kp1 n) i (one (at_ - i + 1) s') e = r
    unfold f3_l2_b
    rw [if_pos (by simp; omega), if_pos (one_len _ _), wr _ (by omega) (by omega), show ((i : Int) + 1) = ((i + 1 : Nat) : Int) by omega]
    by_cases hi : (i : Int) = at_
    · have e1 : at_ - (i : Int) + 1 = 1 := by omega
      have e2 : ((i : Int) == at_) = true := by simpa using hi
      rw [e1, tickF_one, tickL_one, e2]
      have := f3_loop2b (N := N) (at_ := at_) (s := s) (kp0 := kp0) (kp1 := kp1) h n (i + 1) false (by omega) (by omega) (by omega)
      simpa [ifB_ff, ifB_tf, at?] using this
    · have e2 : ((i : Int) == at_) = false := by simpa using hi
      rw [tickF_more s' (by omega), tickL_more s' (by omega) (by omega) (by omega), e2]
      have := ih (i + 1) false (by omega) (by omega) (by omega)
      rw [show at_ - (i : Int) + 1 - 1 = at_ - ((i + 1 : Nat) : Int) + 1 by omega]
      simpa [ifB_ff, ifB_tf] using this

theorem u8_rng {n : Int} (h : (Lit.int .u8 n).wf = true) : 0 ≤ n ∧ n ≤ 255 := by
  simpa [Lit.wf, IntKind.min, IntKind.max, IntKind.bits, IntKind.signed] using h

theorem tmod_pos {a b : Int} (h : 0 ≤ a) : Int.tmod a b = a % b := Int.tmod_eq_emod_of_nonneg h
theorem f3_end {R : Type} (N : Nat) (L : ML) (h : L = []) (k0 : Bool → Option R) : ((ifB (((L.length : Nat) : Int) == 0) true (f12 N (fun (r33 : Bool) => some r33)) (some false)).bind fun c34 => k0 c34) = k0 true := by
  subst h
  rw [known_true]
  rfl
theorem f3_true {R : Type} (n m : Int) (again : Bool) (hn : 0 ≤ n ∧ n ≤ 255) (hm : 0 ≤ m ∧ m ≤ 255) (k0 : Bool → Option R) : f3 200 n m again k0 = k0 true := by
  obtain ⟨k, hk⟩ : ∃ k, k = IntKind.wrap .i64 (1 + (Int.tmod (IntKind.wrap .i64 n) 60)) := ⟨_, rfl⟩
  have hk2 : 1 ≤ k ∧ k ≤ 60 := by
    rw [wr n (by omega) (by omega), tmod_pos (by omega)] at hk
    have : IntKind.wrap .i64 (1 + n % 60) = 1 + n % 60 := wr _ (by omega) (by omega)
    omega
  have ha : ∀ v : Int, ∀ s : Nat, updM [Sc.int .i64 3, Sc.int .i64 1] k s (one v 0) = one k 0 := fun v s => rfl
  have l2 : ∀ (s : Nat) (e : Bool), f3_l2 200 k s 3 1 (fun (y30 : Bool) => k0 y30) (fun (y31 : ML) (y32 : Bool) => (ifB (((y31.length : Nat) : Int) == 0) true (f12 200 (fun (r33 : Bool) => some r33)) (some false)).bind fun c34 => k0 c34) 200 1 (one k 0) e = k0 true := by
    intro s e
    have := f3_loop2a (R := R) (N := 200) (at_ := k) (s := s) (s' := 0) (kp0 := fun (y30 : Bool) => k0 y30) (kp1 := fun (y31 : ML) (y32 : Bool) => (ifB (((y31.length : Nat) : Int) == 0) true (f12 200 (fun (r33 : Bool) => some r33)) (some false)).bind fun c34 => k0 c34) (r := k0 true) hk2.2 (fun e => f3_end 200 _ rfl k0) 200 1 e (by omega) (by omega) (by omega)
    rw [show k - ((1 : Nat) : Int) + 1 = k by omega] at this
    exact this
  unfold f3
  rw [← hk, f9_ok _ _ _ _ _ _ _ _ (by omega)]
  have e0 : updM [Sc.int .i64 3, Sc.int .i64 1] k 0 [] = one k 0 := rfl
  rw [e0, if_neg (by simp)]
  cases again with
  | false =>
    rw [if_neg (by simp)]
    exact l2 _ _
  | true =>
    rw [if_pos rfl, if_neg (by omega)]
    obtain ⟨j, hj⟩ : ∃ j, j = Int.tmod (IntKind.wrap .i64 m) k := ⟨_, rfl⟩
    have hj2 : 0 ≤ j ∧ j < k := by
      rw [wr m (by omega) (by omega), tmod_pos (by omega)] at hj
      rw [hj]
      exact ⟨Int.emod_nonneg _ (by omega), Int.emod_lt_of_pos _ (by omega)⟩
    rw [← hj]
    have h1 := @f3_loop0 R 200 k k j ((if (findM [Sc.int .i64 3, Sc.int .i64 1] ([] : ML)).isSome = true then 0 else 0 + 1)) 0 3 1 (fun (y13 : Bool) => k0 y13)
      (fun (y14 : ML) (y15 : Bool) => f9 200 3 1 k y14 y15 (if (findM [Sc.int .i64 3, Sc.int .i64 1] ([] : ML)).isSome = true then 0 else 0 + 1) (fun (r16 : Int) (r17 : ML) (r18 : Nat) =>
          if (r16 != 0) = true then
            (k0 false)
          else
            (f3_l2 200 k r18 3 1 (fun (y30 : Bool) => k0 y30) (fun (y31 : ML) (y32 : Bool) => (ifB (((y31.length : Nat) : Int) == 0) true (f12 200 (fun (r33 : Bool) => some r33)) (some false)).bind fun c34 => k0 c34) 200 1 r17 y15)))
      (k0 true) k hj2.1 hj2.2 hk2.2 (fun e => by
        show f9 200 3 1 k (one (k - j) 0) e _ _ = k0 true
        rw [f9_ok _ _ _ _ _ _ _ _ (by omega), ha, if_neg (by simp)]
        exact l2 _ _) 200 0 true (by omega) (by omega)
    rw [show k - ((0 : Nat) : Int) = k by omega] at h1
    exact h1
theorem wheelFires_ok (a0 a1 : Int) (a2 : Bool) (h0 : (Lit.int .u8 a0).wf = true) (h1 : (Lit.int .u8 a1).wf = true) : CallOK (E noCalls) 3 [.int .u8 a0, .int .u8 a1, .bool a2] [] ⟨.bool true, some [], []⟩ := by
  obtain ⟨res, e, h⟩ := f3_call 200 a0 a1 a2 (R := Res S) some ⟨.bool true, some [], []⟩ ((f3_run _ _ _ _ _).trans (f3_true _ _ _ (u8_rng h0) (u8_rng h1) _))
  cases e
  exact h
end Wh
