/- Expressions by numbers: what they are; whether they may err, both ways. -/
import Derived.Test.YtfpfmibcnldepaaE3
import Derived.Test.YtfpfmibcnldepaaE5x5
set_option maxRecDepth 100000
set_option linter.unusedVariables false
set_option linter.unusedSimpArgs false
namespace Ef
open Go TE Go.Proofs
def Ok {R : Type} (P : R → Prop) (x : Option R) : Prop := ∃ r, x = some r ∧ P r
theorem eta (x : Expr) : (⟨x.Kind, x.N, x.Name, x.Kids, x.At⟩ : Expr) = x := by cases x; rfl
/-- The expressions that are made. -/
inductive Tr : Type
  | leaf (k n : Int) (s : List UInt8)
  | one (k : Int) (a : Tr)
  | two (k : Int) (a b : Tr)
def Tr.e : Tr → Expr
  | .leaf k n s => ⟨k, n, s, [], 0⟩
  | .one k a => ⟨k, 0, [], [a.e], 0⟩
  | .two k a b => ⟨k, 0, [], [a.e, b.e], 0⟩
def Tr.ok : Tr → Prop
  | .leaf k _ _ => k = 1 ∨ k = 2 ∨ k = 3
  | .one k a => (k = 5 ∨ k = 6) ∧ a.ok
  | .two k a b => (7 ≤ k ∧ k ≤ 19) ∧ a.ok ∧ b.ok
def Tr.dep : Tr → Nat
  | .leaf _ _ _ => 0
  | .one _ a => a.dep + 1
  | .two _ a b => max a.dep b.dep + 1
def Tr.bad : Tr → Bool
  | .leaf _ _ _ => false
  | .one k a => k == 5 || a.bad
  | .two k a b => decide (k ≤ 11) || (a.bad || b.bad)
def Tr.len : Tr → Nat
  | .leaf _ _ _ => 1
  | .one _ a => a.len + 1
  | .two k a b => a.len + b.len + (if k = 18 then 5 else if k = 19 then 7 else 1)
theorem Tr.len_le : ∀ t : Tr, t.len ≤ 8 ^ (t.dep + 1)
  | .leaf _ _ _ => by simp [Tr.len, Tr.dep]
  | .one _ a => by
    have := a.len_le
    have h1 : 1 ≤ 8 ^ (a.dep + 1) := Nat.one_le_pow _ _ (by omega)
    simp only [Tr.len, Tr.dep]
    rw [Nat.pow_succ 8 (a.dep + 1)]; omega
  | .two k a b => by
    have h1 := a.len_le
    have h2 := b.len_le
    have ha : 8 ^ (a.dep + 1) ≤ 8 ^ (max a.dep b.dep + 1) := Nat.pow_le_pow_right (by omega) (by omega)
    have hb : 8 ^ (b.dep + 1) ≤ 8 ^ (max a.dep b.dep + 1) := Nat.pow_le_pow_right (by omega) (by omega)
    have h3 : 8 ≤ 8 ^ (max a.dep b.dep + 1) := Nat.le_self_pow (by omega) 8
    simp only [Tr.len, Tr.dep]
    rw [Nat.pow_succ 8 (max a.dep b.dep + 1)]
    split
    · omega
    · split <;> omega
theorem ifB_ft (x y : Option Bool) : ifB false true x y = y := rfl
theorem ifB_tt (x y : Option Bool) : ifB true true x y = x := rfl
theorem ifB_ff (x y : Option Bool) : ifB false false x y = x := rfl
section
variable {R : Type} {P : R → Prop} {N : Nat}
theorem place_ok {v n : Int} (hn : 0 < n) (h2 : n ≤ 1000) (k : Int → Option R) : ∃ x, 0 ≤ x ∧ x < n ∧ r37_Place N v n k = k x := by
  have h1 := Int.tmod_lt_of_pos v hn
  have h3 : -n < Int.tmod v n := Int.lt_tmod_of_pos v hn
  unfold r37_Place
  rw [if_neg (by omega)]
  by_cases h : Int.tmod v n < 0
  · exact ⟨Int.tmod v n + n, by omega, by omega, by rw [if_pos (by simpa using h), wr _ (by omega) (by omega)]⟩
  · exact ⟨Int.tmod v n, by omega, by omega, by rw [if_neg (by simpa using h)]⟩
theorem next_ok {n : Int} (hn : 0 < n) (h2 : n ≤ 1000) {L : List Int} {At : Int} (h0 : 0 ≤ At) (h1 : At ≤ L.length) (hL : L.length ≤ 1000) (k : Int → Int → Option R) (hk : ∀ x At' : Int, 0 ≤ x → x < n → 0 ≤ At' → At' ≤ (L.length : Int) → Ok P (k x At')) : Ok P (r37_Row_Next N n L At k) := by
  unfold r37_Row_Next
  by_cases h : At ≥ (L.length : Int)
  · rw [if_pos (by simpa using h)]; exact hk 0 At (by omega) hn h0 h1
  · rw [if_neg (by simpa using h), wr (At + 1) (by omega) (by omega), wr _ (by omega) (by omega)]
    have : at? L (At + 1 - 1) = some (L[At.toNat]'(by omega)) := by
      unfold at?; rw [if_neg (by omega), show (At + 1 - 1).toNat = At.toNat by omega, List.getElem?_eq_getElem]
    rw [this, Option.bind_some]
    obtain ⟨x, x0, x1, hx⟩ := place_ok (N := N) (v := L[At.toNat]'(by omega)) hn h2 (fun (r2 : Int) => k r2 (At + 1))
    rw [hx]
    exact hk x (At + 1) x0 x1 (by omega) (by omega)
theorem pick_ok {l : List (List UInt8)} (hl : l ≠ []) (h2 : l.length ≤ 100) {L : List Int} {At : Int} (h0 : 0 ≤ At) (h1 : At ≤ L.length) (hL : L.length ≤ 1000) (k : List UInt8 → Int → Option R) (hk : ∀ (x : List UInt8) (At' : Int), 0 ≤ At' → At' ≤ (L.length : Int) → Ok P (k x At')) : Ok P (r37_pick N l [] L At k) := by
  have hp : 0 < l.length := List.length_pos_iff.2 hl
  unfold r37_pick
  rw [if_neg (by simp; omega)]
  refine next_ok (by omega) (by omega) h0 h1 hL _ fun x At' x0 x1 a0 a1 => ?_
  have : at? l x = some (l[x.toNat]'(by omega)) := by unfold at?; rw [if_neg (by omega), List.getElem?_eq_getElem]
  rw [this]
  exact hk _ _ a0 a1
theorem expr37 {V Po Ti : List (List UInt8)} (hV : V ≠ []) (hV2 : V.length ≤ 100) {L : List Int} (hL : L.length ≤ 1000) : ∀ (d m : Nat) (At : Int) (k : Int → Int → List UInt8 → List Expr → Int → Int → Option R), d < m → d ≤ 100 → 0 ≤ At → At ≤ L.length →
    (∀ (t : Tr) (At' : Int), t.ok → t.dep ≤ d → 0 ≤ At' → At' ≤ (L.length : Int) → Ok P (k t.e.Kind t.e.N t.e.Name t.e.Kids t.e.At At')) → Ok P ((Fam_r37_Expr_at N m).r37_Expr R V Po Ti [] d L At k) := by
  intro d
  induction d with
  | zero =>
    intro m At k hm hd h0 h1 hk
    obtain ⟨m, rfl⟩ : ∃ q, m = q + 1 := ⟨m - 1, by omega⟩
    show Ok P (r37_Expr_d (Fam_r37_Expr_at N m) N V Po Ti [] _ L At k)
    unfold r37_Expr_d
    refine next_ok (by omega) (by omega) h0 h1 hL _ fun x At' x0 x1 a0 a1 => ?_
    have c4 : ∀ (q : Int) kp1, 0 ≤ q → q < 6 → Ok P (r37_Expr_c4 (Fam_r37_Expr_at N m) N 0 q L At' V Po Ti [] 0 0 [] 0 (fun (y47 : Int) (y48 : Int) (y49 : Int) (y50 : List UInt8) (y51 : Int) => k y48 y49 y50 ([] : List Expr) y51 y47) kp1) := by
      intro q kp1 q0 q1
      unfold r37_Expr_c4
      by_cases h2 : q < 2
      · rw [if_pos (by simpa using h2)]
        refine next_ok (by omega) (by omega) a0 a1 hL _ fun x At'' x0 x1 b0 b1 => ?_
        have : ∃ n, at? [(0 : Int), 1, 2, 7, 1099511627776, 9223372036854775807] x = some n := by
          unfold at?; rw [if_neg (by omega)]
          exact ⟨_, List.getElem?_eq_getElem (by simp; omega)⟩
        obtain ⟨n, hn⟩ := this
        rw [hn]
        exact hk (.leaf 1 n []) _ (.inl rfl) (by simp [Tr.dep]) b0 b1
      · rw [if_neg (by simpa using h2)]
        by_cases h3 : q = 2
        · subst h3
          have : decide (((V.length : Nat) : Int) > 0) = true := by
            have := List.length_pos_iff.2 hV; simpa using this
          simp only [this, BEq.rfl, ifB_tt, if_true, Option.bind_some]
          exact pick_ok hV hV2 a0 a1 hL _ fun s At'' b0 b1 => hk (.leaf 2 0 s) _ (.inr (.inl rfl)) (by simp [Tr.dep]) b0 b1
        · have e2 : (q == 2) = false := by simpa using h3
          simp only [e2, ifB_ft, List.length_nil]
          rw [Option.bind_some, if_neg (by simp)]
          have e3 : ifB (q == 3) true (some (decide ((((0 : Nat) : Int)) > 0))) (some false) = some false := by
            unfold ifB; split <;> simp
          rw [e3, Option.bind_some, if_neg (by simp), if_pos (by simp; omega)]
          exact hk (.leaf 3 0 []) _ (.inr (.inr rfl)) (by simp [Tr.dep]) a0 a1
    simp only [show ((((0 : Nat) : Int)) == 0) = true from rfl, ifB_tt, Option.bind_some]
    by_cases hx : x > 5
    · rw [if_pos (by simpa using hx)]
      exact c4 _ _ (Int.tmod_nonneg _ x0) (Int.tmod_lt_of_pos _ (by omega))
    · rw [if_neg (by simpa using hx)]
      exact c4 _ _ x0 (by omega)
  | succ d ih =>
    intro m At k hm hd h0 h1 hk
    obtain ⟨m, rfl⟩ : ∃ q, m = q + 1 := ⟨m - 1, by omega⟩
    show Ok P (r37_Expr_d (Fam_r37_Expr_at N m) N V Po Ti [] _ L At k)
    unfold r37_Expr_d
    refine next_ok (by omega) (by omega) h0 h1 hL _ fun q At' q0 q1 a0 a1 => ?_
    have e0 : (((d + 1 : Nat) : Int) == 0) = false := by simp; omega
    simp only [e0, ifB_ft]
    rw [Option.bind_some, if_neg (by simp)]
    unfold r37_Expr_c4
    by_cases h2 : q < 2
    · rw [if_pos (by simpa using h2)]
      refine next_ok (by omega) (by omega) a0 a1 hL _ fun x At'' x0 x1 b0 b1 => ?_
      have : ∃ n, at? [(0 : Int), 1, 2, 7, 1099511627776, 9223372036854775807] x = some n := by
        unfold at?; rw [if_neg (by omega)]
        exact ⟨_, List.getElem?_eq_getElem (by simp; omega)⟩
      obtain ⟨n, hn⟩ := this
      rw [hn]
      exact hk (.leaf 1 n []) _ (.inl rfl) (by simp [Tr.dep]) b0 b1
    · rw [if_neg (by simpa using h2)]
      by_cases h3 : q = 2
      · subst h3
        have : decide (((V.length : Nat) : Int) > 0) = true := by
          have := List.length_pos_iff.2 hV; simpa using this
        simp only [this, BEq.rfl, ifB_tt, if_true, Option.bind_some]
        exact pick_ok hV hV2 a0 a1 hL _ fun s At'' b0 b1 => hk (.leaf 2 0 s) _ (.inr (.inl rfl)) (by simp [Tr.dep]) b0 b1
      · have e2 : (q == 2) = false := by simpa using h3
        simp only [e2, ifB_ft, List.length_nil]
        rw [Option.bind_some, if_neg (by simp)]
        have e3 : ifB (q == 3) true (some (decide ((((0 : Nat) : Int)) > 0))) (some false) = some false := by
          unfold ifB; split <;> simp
        rw [e3, Option.bind_some, if_neg (by simp)]
        by_cases h6 : q < 6
        · rw [if_pos (by simpa using h6)]
          exact hk (.leaf 3 0 []) _ (.inr (.inr rfl)) (by simp [Tr.dep]) a0 a1
        · rw [if_neg (by simpa using h6)]
          have ed : IntKind.wrap .i64 (((d + 1 : Nat) : Int) - 1) = (d : Int) := by rw [wr _ (by omega) (by omega)]; omega
          rw [ed]
          by_cases h7 : q = 6
          · rw [if_pos (by simpa using h7)]
            refine next_ok (by omega) (by omega) a0 a1 hL _ fun x At'' x0 x1 b0 b1 => ?_
            refine ih m At'' _ (by omega) (by omega) b0 b1 fun t At3 t1 t2 c0 c1 => ?_
            rw [wr _ (by omega) (by omega), eta]
            exact hk (.one (5 + x) t) _ ⟨by omega, t1⟩ (by simp only [Tr.dep]; omega) c0 c1
          · rw [if_neg (by simpa using h7)]
            refine ih m At' _ (by omega) (by omega) a0 a1 fun t At3 t1 t2 c0 c1 => ?_
            refine next_ok (by omega) (by omega) c0 c1 hL _ fun x At'' x0 x1 b0 b1 => ?_
            refine ih m At'' _ (by omega) (by omega) b0 b1 fun u At4 u1 u2 d0 d1 => ?_
            rw [wr _ (by omega) (by omega), eta, eta]
            exact hk (.two (7 + x) t u) _ ⟨by omega, t1, u1⟩ (by simp only [Tr.dep]; omega) d0 d1
/-- the reference's errs -/
theorem errs30 (hN : 3 ≤ N) : ∀ (t : Tr) (m : Nat) (k : Bool → Option R), t.ok → t.dep < m → (Fam_r30_errs_at N m).r30_errs R t.e.Kind t.e.N t.e.Name t.e.Kids t.e.At k = k t.bad := by
  obtain ⟨N, rfl⟩ : ∃ q, N = q + 3 := ⟨N - 3, by omega⟩
  intro t
  induction t with
  | leaf kd n s =>
    intro m k h1 h2
    obtain ⟨m, rfl⟩ : ∃ q, m = q + 1 := ⟨m - 1, by omega⟩
    show r30_errs_d (Fam_r30_errs_at (N + 3) m) (N + 3) kd n s [] 0 k = _
    unfold r30_errs_d
    simp only [r30_errs_l0, r30_errs_l0_b]
    have e1 : (kd == 5) = false := by have h1 : kd = 1 ∨ kd = 2 ∨ kd = 3 := h1; simp; omega
    have e2 : decide (kd ≥ 7) = false := by have h1 : kd = 1 ∨ kd = 2 ∨ kd = 3 := h1; simp; omega
    simp [e1, e2, ifB, Tr.bad]
  | one kd a iha =>
    intro m k h1 h2
    obtain ⟨m, rfl⟩ : ∃ q, m = q + 1 := ⟨m - 1, by omega⟩
    obtain ⟨h1, h3⟩ := h1
    show r30_errs_d (Fam_r30_errs_at (N + 3) m) (N + 3) kd 0 [] [a.e] 0 k = _
    unfold r30_errs_d
    simp only [r30_errs_l0, r30_errs_l0_b]
    rw [show at? [a.e] 0 = some a.e from rfl]
    simp only [Option.bind_some]
    rw [iha m _ h3 (by simp only [Tr.dep] at h2; omega)]
    rcases h1 with rfl | rfl
    · simp [ifB, Tr.bad]
    · cases hb : a.bad with
      | true => simp [ifB, Tr.bad, hb]
      | false => simp [ifB, Tr.bad, hb, show IntKind.wrap .i64 1 = 1 from rfl]
  | two kd a b iha ihb =>
    intro m k h1 h2
    obtain ⟨m, rfl⟩ : ∃ q, m = q + 1 := ⟨m - 1, by omega⟩
    obtain ⟨⟨h1, h1'⟩, h3, h4⟩ := h1
    simp only [Tr.dep] at h2
    show r30_errs_d (Fam_r30_errs_at (N + 3) m) (N + 3) kd 0 [] [a.e, b.e] 0 k = _
    unfold r30_errs_d
    simp only [r30_errs_l0, r30_errs_l0_b]
    rw [show at? [a.e, b.e] 0 = some a.e from rfl, show IntKind.wrap .i64 (0 + 1) = 1 from rfl, show IntKind.wrap .i64 (1 + 1) = 2 from rfl, show at? [a.e, b.e] 1 = some b.e from rfl]
    simp only [Option.bind_some]
    rw [iha m _ h3 (by omega), ihb m _ h4 (by omega)]
    have e1 : (kd == 5) = false := by simp; omega
    have e2 : decide (kd ≥ 7) = true := by simpa using h1
    cases h5 : decide (kd ≤ 11) <;> cases ha : a.bad <;> cases hb : b.bad <;> simp [e1, e2, ifB, Tr.bad, h5, ha, hb]
/-- the program's may -/
theorem may30 (hN : 3 ≤ N) : ∀ (t : Tr) (m : Nat) (k : Bool → Option R), t.ok → 3 * t.dep + 2 < m → (Fam_effect_may_at N m).effect_may R t.e.Kind t.e.N t.e.Name t.e.Kids t.e.At k = k t.bad := by
  obtain ⟨N, rfl⟩ : ∃ q, N = q + 3 := ⟨N - 3, by omega⟩
  have hd : ∀ (F : Fam_effect_may) (kd n : Int) (s : List UInt8) (ks : List Expr) (k : Bool → Option R), effect_may_d F (N + 3) kd n s ks 0 k = if kd = 5 ∨ (7 ≤ kd ∧ kd ≤ 11) then k true else F.slices_ContainsFunc_Expr _ ks (fun r => k r) := by
    intro F kd n s ks k
    unfold effect_may_d
    by_cases c5 : kd = 5
    · subst c5; simp
    by_cases c7 : kd = 7
    · subst c7; simp
    by_cases c8 : kd = 8
    · subst c8; simp
    by_cases c9 : kd = 9
    · subst c9; simp
    by_cases c10 : kd = 10
    · subst c10; simp
    by_cases c11 : kd = 11
    · subst c11; simp
    rw [if_neg (by simpa using c5), if_neg (by simpa using c7), if_neg (by simpa using c8), if_neg (by simpa using c9), if_neg (by simpa using c10), if_neg (by simpa using c11), if_neg (by omega)]
    rfl
  intro t
  induction t with
  | leaf kd n s =>
    intro m k h1 h2
    obtain ⟨m, rfl⟩ : ∃ q, m = q + 3 := ⟨m - 3, by omega⟩
    have h1 : kd = 1 ∨ kd = 2 ∨ kd = 3 := h1
    show effect_may_d (Fam_effect_may_at (N + 3) (m + 2)) (N + 3) kd n s [] 0 k = _
    rw [hd, if_neg (by omega)]
    show slices_ContainsFunc_Expr_d (Fam_effect_may_at (N + 3) (m + 1)) (N + 3) [] _ = _
    unfold slices_ContainsFunc_Expr_d
    change slices_IndexFunc_Expr_d (R := R) (Fam_effect_may_at (N + 3) m) (N + 3) [] (fun (r1 : Int) => k (decide (r1 ≥ 0))) = _
    unfold slices_IndexFunc_Expr_d
    simp only [slices_IndexFunc_Expr_l0, slices_IndexFunc_Expr_l0_b]
    simp [Tr.bad]
  | one kd a iha =>
    intro m k h1 h2
    simp only [Tr.dep] at h2
    obtain ⟨m, rfl⟩ : ∃ q, m = q + 3 := ⟨m - 3, by omega⟩
    obtain ⟨h1, h3⟩ := h1
    show effect_may_d (Fam_effect_may_at (N + 3) (m + 2)) (N + 3) kd 0 [] [a.e] 0 k = _
    rw [hd]
    rcases h1 with rfl | rfl
    · simp [Tr.bad]
    · rw [if_neg (by omega)]
      show slices_ContainsFunc_Expr_d (Fam_effect_may_at (N + 3) (m + 1)) (N + 3) [a.e] _ = _
      unfold slices_ContainsFunc_Expr_d
      change slices_IndexFunc_Expr_d (R := R) (Fam_effect_may_at (N + 3) m) (N + 3) [a.e] (fun (r1 : Int) => k (decide (r1 ≥ 0))) = _
      unfold slices_IndexFunc_Expr_d
      simp only [slices_IndexFunc_Expr_l0, slices_IndexFunc_Expr_l0_b]
      rw [show at? [a.e] 0 = some a.e from rfl]
      simp only [Option.bind_some]
      rw [iha m _ h3 (by omega)]
      cases hb : a.bad with
      | true => simp [Tr.bad, hb]
      | false => simp [Tr.bad, hb, show IntKind.wrap .i64 1 = 1 from rfl]
  | two kd a b iha ihb =>
    intro m k h1 h2
    simp only [Tr.dep] at h2
    obtain ⟨m, rfl⟩ : ∃ q, m = q + 3 := ⟨m - 3, by omega⟩
    obtain ⟨⟨h1, h1'⟩, h3, h4⟩ := h1
    show effect_may_d (Fam_effect_may_at (N + 3) (m + 2)) (N + 3) kd 0 [] [a.e, b.e] 0 k = _
    rw [hd]
    by_cases h5 : kd ≤ 11
    · rw [if_pos (.inr ⟨h1, h5⟩)]; simp [Tr.bad, h5]
    · rw [if_neg (by omega)]
      show slices_ContainsFunc_Expr_d (Fam_effect_may_at (N + 3) (m + 1)) (N + 3) [a.e, b.e] _ = _
      unfold slices_ContainsFunc_Expr_d
      change slices_IndexFunc_Expr_d (R := R) (Fam_effect_may_at (N + 3) m) (N + 3) [a.e, b.e] (fun (r1 : Int) => k (decide (r1 ≥ 0))) = _
      unfold slices_IndexFunc_Expr_d
      simp only [slices_IndexFunc_Expr_l0, slices_IndexFunc_Expr_l0_b]
      rw [show at? [a.e, b.e] 0 = some a.e from rfl, show IntKind.wrap .i64 (0 + 1) = 1 from rfl, show IntKind.wrap .i64 (1 + 1) = 2 from rfl, show at? [a.e, b.e] 1 = some b.e from rfl]
      simp only [Option.bind_some]
      rw [iha m _ h3 (by omega), ihb m _ h4 (by omega)]
      cases ha : a.bad <;> cases hb : b.bad <;> simp [Tr.bad, h5, ha, hb]
end
end Ef

