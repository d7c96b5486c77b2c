/- Expressions by numbers: what they are; whether they may err, both ways. -/
import Derived.Test.YtfpfmibcnldepaaE3
import Derived.Test.YtfpfmibcnldepaaEQ
import Derived.Test.YtfpfmibcnldepaaEA
set_option maxRecDepth 100000
set_option linter.unusedVariables false
set_option linter.unusedSimpArgs false
namespace Ef
open Go TE Go.Proofs
def Ok {R : Type} (P : R → Prop) (x : Option R) : Prop := ∃ r, x = some r ∧ P r
theorem eta (x : Expr) : (⟨x.Kind, x.N, x.Name, x.Kids, x.At⟩ : Expr) = x := by cases x; rfl
/-- The expressions that are made. -/
inductive Tr : Type
  | leaf (k n : Int) (s : List UInt8)
  | one (k : Int) (a : Tr)
  | two (k : Int) (a b : Tr)
def Tr.e : Tr → Expr
  | .leaf k n s => ⟨k, n, s, [], 0⟩
  | .one k a => ⟨k, 0, [], [a.e], 0⟩
  | .two k a b => ⟨k, 0, [], [a.e, b.e], 0⟩
def Tr.ok : Tr → Prop
  | .leaf k _ _ => k = 1 ∨ k = 2 ∨ k = 3
  | .one k a => (k = 5 ∨ k = 6) ∧ a.ok
  | .two k a b => (7 ≤ k ∧ k ≤ 19) ∧ a.ok ∧ b.ok
def Tr.dep : Tr → Nat
  | .leaf _ _ _ => 0
  | .one _ a => a.dep + 1
  | .two _ a b => max a.dep b.dep + 1
def Tr.bad : Tr → Bool
  | .leaf _ _ _ => false
  | .one k a => k == 5 || a.bad
  | .two k a b => decide (k ≤ 11) || (a.bad || b.bad)
def Tr.len : Tr → Nat
  | .leaf _ _ _ => 1
  | .one _ a => a.len + 1
  | .two k a b => a.len + b.len + (if k = 18 then 5 else if k = 19 then 7 else 1)
theorem Tr.len_le : ∀ t : Tr, t.len ≤ 8 ^ (t.dep + 1)
  | .leaf _ _ _ => by simp [Tr.len, Tr.dep]
  | .one _ a => by
    have := a.len_le
    have h1 : 1 ≤ 8 ^ (a.dep + 1) := Nat.one_le_pow _ _ (by omega)
    simp only [Tr.len, Tr.dep]
    rw [Nat.pow_succ 8 (a.dep + 1)]; omega
  | .two k a b => by
    have h1 := a.len_le
    have h2 := b.len_le
    have ha : 8 ^ (a.dep + 1) ≤ 8 ^ (max a.dep b.dep + 1) := Nat.pow_le_pow_right (by omega) (by omega)
    have hb : 8 ^ (b.dep + 1) ≤ 8 ^ (max a.dep b.dep + 1) := Nat.pow_le_pow_right (by omega) (by omega)
    have h3 : 8 ≤ 8 ^ (max a.dep b.dep + 1) := Nat.le_self_pow (by omega) 8
    simp only [Tr.len, Tr.dep]
    rw [Nat.pow_succ 8 (max a.dep b.dep + 1)]
    split
    · omega
    · split <;> omega
theorem ifB_ft (x y : Option Bool) : ifB false true x y = y := rfl
theorem ifB_tt (x y : Option Bool) : ifB true true x y = x := rfl
theorem ifB_ff (x y : Option Bool) : ifB false false x y = x := rfl
section
variable {R : Type} {P : R → Prop} {N : Nat}
theorem place_ok {v n : Int} (hn : 0 < n) (h2 : n ≤ 1000) (k : Int → Option R) : ∃ x, 0 ≤ x ∧ x < n ∧ r37_Place N v n k = k x := by
  have h1 := Int.tmod_lt_of_pos v hn
  have h3 : -n < Int.tmod v n := Int.lt_tmod_of_pos v hn
  unfold r37_Place
  rw [if_neg (by omega)]
  by_cases h : Int.tmod v n < 0
  · exact ⟨Int.tmod v n + n, by omega, by omega, by rw [if_pos (by simpa using h), wr _ (by omega) (by omega)]⟩
  · exact ⟨Int.tmod v n, by omega, by omega, by rw [if_neg (by simpa using h)]⟩
theorem next_ok {n : Int} (hn : 0 < n) (h2 : n ≤ 1000) {L : List Int} {At : Int} (h0 : 0 ≤ At) (h1 : At ≤ L.length) (hL : L.length ≤ 1000) (k : Int → Int → Option R) (hk : ∀ x At' : Int, 0 ≤ x → x < n → 0 ≤ At' → At' ≤ (L.length : Int) → Ok P (k x At')) : Ok P (r37_Row_Next N n L At k) := by
  unfold r37_Row_Next
  by_cases h : At ≥ (L.length : Int)
  · rw [if_pos (by simpa using h)]; exact hk 0 At (by omega) hn h0 h1
  · rw [if_neg (by simpa using h), wr (At + 1) (by omega) (by omega), wr _ (by omega) (by omega)]
    have : at? L (At + 1 - 1) = some (L[At.toNat]'(by omega)) := by
      unfold at?; rw [if_neg (by omega), show (At + 1 - 1).toNat = At.toNat by omega, List.getElem?_eq_getElem]
    rw [this, Option.bind_some]
    obtain ⟨x, x0, x1, hx⟩ := place_ok (N := N) (v := L[At.toNat]'(by omega)) hn h2 (fun (r2 : Int) => k r2 (At + 1))
    rw [hx]
    exact hk x (At + 1) x0 x1 (by omega) (by omega)
theorem pick_ok {l : List (List UInt8)} (hl : l ≠ []) (h2 : l.length ≤ 100) {L : List Int} {At : Int} (h0 : 0 ≤ At) (h1 : At ≤ L.length) (hL : L.length ≤ 1000) (k : List UInt8 → Int → Option R) (hk : ∀ (x : List UInt8) (At' : Int), 0 ≤ At' → At' ≤ (L.length : Int) → Ok P (k x At')) : Ok P (r37_pick N l [] L At k) := by
  have hp : 0 < l.length := List.length_pos_iff.2 hl
  unfold r37_pick
  rw [if_neg (by simp; omega)]
  refine next_ok (by omega) (by omega) h0 h1 hL _ fun x At' x0 x1 a0 a1 => ?_
  have : at? l x = some (l[x.toNat]'(by omega)) := by unfold at?; rw [if_neg (by omega), List.getElem?_eq_getElem]
  rw [this]
  exact hk _ _ a0 a1
theorem expr37 {V Po Ti : List (List UInt8)} (hV : V ≠ []) (hV2 : V.length ≤ 100) {L : List Int} (hL : L.length ≤ 1000) : ∀ (d m : Nat) (At : Int) (k : Int → Int → List UInt8 → List Expr → Int → Int → Option R), d < m → d ≤ 100 → 0 ≤ At → At ≤ L.length →
    (∀ (t : Tr) (At' : Int), t.ok → t.dep ≤ d → 0 ≤ At' → At' ≤ (L.length : Int) → Ok P (k t.e.Kind t.e.N t.e.Name t.e.Kids t.e.At At')) → Ok P ((Fam_r37_Expr_at N m).r37_Expr R V Po Ti [] d L At k) := by
  intro d
  induction d with
  | zero =>
    intro m At k hm hd h0 h1 hk
    obtain ⟨m, rfl⟩ : ∃ q, m = q + 1 := ⟨m - 1, by omega⟩
    show Ok P (r37_Expr_d (Fam_r37_Expr_at N m) N V Po Ti [] _ L At k)
    unfold r37_Expr_d
    refine next_ok (by omega) (by omega) h0 h1 hL _ fun x At' x0 x1 a0 a1 => ?_
    have c4 : ∀ (q : Int) kp1, 0 ≤ q → q < 6 → Ok P (r37_Expr_c4 (Fam_r37_Expr_at N m) N 0 q L At' V Po Ti [] 0 0 [] 0 (fun (y47 : Int) (y48 : Int) (y49 : Int) (y50 : List UInt8) (y51 : Int) => k y48 y49 y50 ([] : List Expr) y51 y47) kp1) := by
      intro q kp1 q0 q1
      unfold r37_Expr_c4
      by_cases h2 : q < 2
      · rw [if_pos (by simpa using h2)]
        refine next_ok (by omega) (by omega) a0 a1 hL _ fun x At'' x0 x1 b0 b1 => ?_
        have : ∃ n, at? [(0 : Int), 1, 2, 7, 1099511627776, 9223372036854775807] x = some n := by
          unfold at?; rw [if_neg (by omega)]
          exact ⟨_, List.getElem?_eq_getElem (by simp; omega)⟩
        obtain ⟨n, hn⟩ := this
        rw [hn]
        exact hk (.leaf 1 n []) _ (.inl rfl) (by simp [Tr.dep]) b0 b1
      · rw [if_neg (by simpa using h2)]
        by_cases h3 : q = 2
        · subst h3
          have : decide (((V.length : Nat) : Int) > 0) = true := by
            have := List.length_pos_iff.2 hV; simpa using this
          simp only [this, BEq.rfl, ifB_tt, if_true, Option.bind_some]
          exact pick_ok hV hV2 a0 a1 hL _ fun s At'' b0 b1 => hk (.leaf 2 0 s) _ (.inr (.inl rfl)) (by simp [Tr.dep]) b0 b1
        · have e2 : (q == 2) = false := by simpa using h3
          simp only [e2, ifB_ft, List.length_nil]
          rw [Option.bind_some, if_neg (by simp)]
          have e3 : ifB (q == 3) true (some (decide ((((0 : Nat) : Int)) > 0))) (some false) = some false := by
            unfold ifB; split <;> simp
          rw [e3, Option.bind_some, if_neg (by simp), if_pos (by simp; omega)]
          exact hk (.leaf 3 0 []) _ (.inr (.inr rfl)) (by simp [Tr.dep]) a0 a1
    simp only [show ((((0 : Nat) : Int)) == 0) = true from rfl, ifB_tt, Option.bind_some]
    by_cases hx : x > 5
    · rw [if_pos (by simpa using hx)]
      exact c4 _ _ (Int.tmod_nonneg _ x0) (Int.tmod_lt_of_pos _ (by omega))
    · rw [if_neg (by simpa using hx)]
      exact c4 _ _ x0 (by omega)
  | succ d ih =>
    intro m At k hm hd h0 h1 hk
    obtain ⟨m, rfl⟩ : ∃ q, m = q + 1 := ⟨m - 1, by omega⟩
    show Ok P (r37_Expr_d (Fam_r37_Expr_at N m) N V Po Ti [] _ L At k)
    unfold r37_Expr_d
    refine next_ok (by omega) (by omega) h0 h1 hL _ fun q At' q0 q1 a0 a1 => ?_
    have e0 : (((d + 1 : Nat) : Int) == 0) = false := by simp; omega
    simp only [e0, ifB_ft]
    rw [Option.bind_some, if_neg (by simp)]
    unfold r37_Expr_c4
    by_cases h2 : q < 2
    · rw [if_pos (by simpa using h2)]
      refine next_ok (by omega) (by omega) a0 a1 hL _ fun x At'' x0 x1 b0 b1 => ?_
      have : ∃ n, at? [(0 : Int), 1, 2, 7, 1099511627776, 9223372036854775807] x = some n := by
        unfold at?; rw [if_neg (by omega)]
        exact ⟨_, List.getElem?_eq_getElem (by simp; omega)⟩
      obtain ⟨n, hn⟩ := this
      rw [hn]
      exact hk (.leaf 1 n []) _ (.inl rfl) (by simp [Tr.dep]) b0 b1
    · rw [if_neg (by simpa using h2)]
      by_cases h3 : q = 2
      · subst h3
        have : decide (((V.length : Nat) : Int) > 0) = true := by
          have := List.length_pos_iff.2 hV; simpa using this
        simp only [this, BEq.rfl, ifB_tt, if_true, Option.bind_some]
        exact pick_ok hV hV2 a0 a1 hL _ fun s At'' b0 b1 => hk (.leaf 2 0 s) _ (.inr (.inl rfl)) (by simp [Tr.dep]) b0 b1
      · have e2 : (q == 2) = false := by simpa using h3
        simp only [e2, ifB_ft, List.length_nil]
        rw [Option.bind_some, if_neg (by simp)]
        have e3 : ifB (q == 3) true (some (decide ((((0 : Nat) : Int)) > 0))) (some false) = some false := by
          unfold ifB; split <;> simp
        rw [e3, Option.bind_some, if_neg (by simp)]
        by_cases h6 : q < 6
        · rw [if_pos (by simpa using h6)]
          exact hk (.leaf 3 0 []) _ (.inr (.inr rfl)) (by simp [Tr.dep]) a0 a1
        · rw [if_neg (by simpa using h6)]
          have ed : IntKind.wrap .i64 (((d + 1 : Nat) : Int) - 1) = (d : Int) := by rw [wr _ (by omega) (by omega)]; omega
          rw [ed]
          by_cases h7 : q = 6
          · rw [if_pos (by simpa using h7)]
            refine next_ok (by omega) (by omega) a0 a1 hL _ fun x At'' x0 x1 b0 b1 => ?_
            refine ih m At'' _ (by omega) (by omega) b0 b1 fun t At3 t1 t2 c0 c1 => ?_
            rw [wr _ (by omega) (by omega), eta]
            exact hk (.one (5 + x) t) _ ⟨by omega, t1⟩ (by simp only [Tr.dep]; omega) c0 c1
          · rw [if_neg (by simpa using h7)]
            refine ih m At' _ (by omega) (by omega) a0 a1 fun t At3 t1 t2 c0 c1 => ?_
            refine next_ok (by omega) (by omega) c0 c1 hL _ fun x At'' x0 x1 b0 b1 => ?_
            refine ih m At'' _ (by omega) (by omega) b0 b1 fun u At4 u1 u2 d0 d1 => ?_
            rw [wr _ (by omega) (by omega), eta, eta]
            exact hk (.two (7 + x) t u) _ ⟨by omega, t1, u1⟩ (by simp only [Tr.dep]; omega) d0 d1
/-- the reference's errs -/
theorem errs30 (hN : 3 ≤ N) : ∀ (t : Tr) (m : Nat) (k : Bool → Option R), t.ok → t.dep < m → (Fam_r30_errs_at N m).r30_errs R t.e.Kind t.e.N t.e.Name t.e.Kids t.e.At k = k t.bad := by
  obtain ⟨N, rfl⟩ : ∃ q, N = q + 3 := ⟨N - 3, by omega⟩
  intro t
  induction t with
  | leaf kd n s =>
    intro m k h1 h2
    obtain ⟨m, rfl⟩ : ∃ q, m = q + 1 := ⟨m - 1, by omega⟩
    show r30_errs_d (Fam_r30_errs_at (N + 3) m) (N + 3) kd n s [] 0 k = _
    unfold r30_errs_d
    simp only [r30_errs_l0, r30_errs_l0_b]
    have e1 : (kd == 5) = false := by have h1 : kd = 1 ∨ kd = 2 ∨ kd = 3 := h1; simp; omega
    have e2 : decide (kd ≥ 7) = false := by have h1 : kd = 1 ∨ kd = 2 ∨ kd = 3 := h1; simp; omega
    simp [e1, e2, ifB, Tr.bad]
  | one kd a iha =>
    intro m k h1 h2
    obtain ⟨m, rfl⟩ : ∃ q, m = q + 1 := ⟨m - 1, by omega⟩
    obtain ⟨h1, h3⟩ := h1
    show r30_errs_d (Fam_r30_errs_at (N + 3) m) (N + 3) kd 0 [] [a.e] 0 k = _
    unfold r30_errs_d
    simp only [r30_errs_l0, r30_errs_l0_b]
    rw [show at? [a.e] 0 = some a.e from rfl]
    simp only [Option.bind_some]
    rw [iha m _ h3 (by simp only [Tr.dep] at h2; omega)]
    rcases h1 with rfl | rfl
    · simp [ifB, Tr.bad]
    · cases hb : a.bad with
      | true => simp [ifB, Tr.bad, hb]
      | false => simp [ifB, Tr.bad, hb, show IntKind.wrap .i64 1 = 1 from rfl]
  | two kd a b iha ihb =>
    intro m k h1 h2
    obtain ⟨m, rfl⟩ : ∃ q, m = q + 1 := ⟨m - 1, by omega⟩
    obtain ⟨⟨h1, h1'⟩, h3, h4⟩ := h1
    simp only [Tr.dep] at h2
    show r30_errs_d (Fam_r30_errs_at (N + 3) m) (N + 3) kd 0 [] [a.e, b.e] 0 k = _
    unfold r30_errs_d
    simp only [r30_errs_l0, r30_errs_l0_b]
    rw [show at? [a.e, b.e] 0 = some a.e from rfl, show IntKind.wrap .i64 (0 + 1) = 1 from rfl, show IntKind.wrap .i64 (1 + 1) = 2 from rfl, show at? [a.e, b.e] 1 = some b.e from rfl]
    simp only [Option.bind_some]
    rw [iha m _ h3 (by omega), ihb m _ h4 (by omega)]
    have e1 : (kd == 5) = false := by simp; omega
    have e2 : decide (kd ≥ 7) = true := by simpa using h1
    cases h5 : decide (kd ≤ 11) <;> cases ha : a.bad <;> cases hb : b.bad <;> simp [e1, e2, ifB, Tr.bad, h5, ha, hb]
/-- the program's may -/
theorem may30 (hN : 3 ≤ N) : ∀ (t : Tr) (m : Nat) (k : Bool → Option R), t.ok → 3 * t.dep + 2 < m → (Fam_effect_may_at N m).effect_may R t.e.Kind t.e.N t.e.Name t.e.Kids t.e.At k = k t.bad := by
  obtain ⟨N, rfl⟩ : ∃ q, N = q + 3 := ⟨N - 3, by omega⟩
  have hd : ∀ (F : Fam_effect_may) (kd n : Int) (s : List UInt8) (ks : List Expr) (k : Bool → Option R), effect_may_d F (N + 3) kd n s ks 0 k = if kd = 5 ∨ (7 ≤ kd ∧ kd ≤ 11) then k true else F.slices_ContainsFunc_Expr _ ks (fun r => k r) := by
    intro F kd n s ks k
    unfold effect_may_d
    by_cases c5 : kd = 5
    · subst c5; simp
    by_cases c7 : kd = 7
    · subst c7; simp
    by_cases c8 : kd = 8
    · subst c8; simp
    by_cases c9 : kd = 9
    · subst c9; simp
    by_cases c10 : kd = 10
    · subst c10; simp
    by_cases c11 : kd = 11
    · subst c11; simp
    rw [if_neg (by simpa using c5), if_neg (by simpa using c7), if_neg (by simpa using c8), if_neg (by simpa using c9), if_neg (by simpa using c10), if_neg (by simpa using c11), if_neg (by omega)]
    rfl
  intro t
  induction t with
  | leaf kd n s =>
    intro m k h1 h2
    obtain ⟨m, rfl⟩ : ∃ q, m = q + 3 := ⟨m - 3, by omega⟩
    have h1 : kd = 1 ∨ kd = 2 ∨ kd = 3 := h1
    show effect_may_d (Fam_effect_may_at (N + 3) (m + 2)) (N + 3) kd n s [] 0 k = _
    rw [hd, if_neg (by omega)]
    show slices_ContainsFunc_Expr_d (Fam_effect_may_at (N + 3) (m + 1)) (N + 3) [] _ = _
    unfold slices_ContainsFunc_Expr_d
    change slices_IndexFunc_Expr_d (R := R) (Fam_effect_may_at (N + 3) m) (N + 3) [] (fun (r1 : Int) => k (decide (r1 ≥ 0))) = _
    unfold slices_IndexFunc_Expr_d
    simp only [slices_IndexFunc_Expr_l0, slices_IndexFunc_Expr_l0_b]
    simp [Tr.bad]
  | one kd a iha =>
    intro m k h1 h2
    simp only [Tr.dep] at h2
    obtain ⟨m, rfl⟩ : ∃ q, m = q + 3 := ⟨m - 3, by omega⟩
    obtain ⟨h1, h3⟩ := h1
    show effect_may_d (Fam_effect_may_at (N + 3) (m + 2)) (N + 3) kd 0 [] [a.e] 0 k = _
    rw [hd]
    rcases h1 with rfl | rfl
    · simp [Tr.bad]
    · rw [if_neg (by omega)]
      show slices_ContainsFunc_Expr_d (Fam_effect_may_at (N + 3) (m + 1)) (N + 3) [a.e] _ = _
      unfold slices_ContainsFunc_Expr_d
      change slices_IndexFunc_Expr_d (R := R) (Fam_effect_may_at (N + 3) m) (N + 3) [a.e] (fun (r1 : Int) => k (decide (r1 ≥ 0))) = _
      unfold slices_IndexFunc_Expr_d
      simp only [slices_IndexFunc_Expr_l0, slices_IndexFunc_Expr_l0_b]
      rw [show at? [a.e] 0 = some a.e from rfl]
      simp only [Option.bind_some]
      rw [iha m _ h3 (by omega)]
      cases hb : a.bad with
      | true => simp [Tr.bad, hb]
      | false => simp [Tr.bad, hb, show IntKind.wrap .i64 1 = 1 from rfl]
  | two kd a b iha ihb =>
    intro m k h1 h2
    simp only [Tr.dep] at h2
    obtain ⟨m, rfl⟩ : ∃ q, m = q + 3 := ⟨m - 3, by omega⟩
    obtain ⟨⟨h1, h1'⟩, h3, h4⟩ := h1
    show effect_may_d (Fam_effect_may_at (N + 3) (m + 2)) (N + 3) kd 0 [] [a.e, b.e] 0 k = _
    rw [hd]
    by_cases h5 : kd ≤ 11
    · rw [if_pos (.inr ⟨h1, h5⟩)]; simp [Tr.bad, h5]
    · rw [if_neg (by omega)]
      show slices_ContainsFunc_Expr_d (Fam_effect_may_at (N + 3) (m + 1)) (N + 3) [a.e, b.e] _ = _
      unfold slices_ContainsFunc_Expr_d
      change slices_IndexFunc_Expr_d (R := R) (Fam_effect_may_at (N + 3) m) (N + 3) [a.e, b.e] (fun (r1 : Int) => k (decide (r1 ≥ 0))) = _
      unfold slices_IndexFunc_Expr_d
      simp only [slices_IndexFunc_Expr_l0, slices_IndexFunc_Expr_l0_b]
      rw [show at? [a.e, b.e] 0 = some a.e from rfl, show IntKind.wrap .i64 (0 + 1) = 1 from rfl, show IntKind.wrap .i64 (1 + 1) = 2 from rfl, show at? [a.e, b.e] 1 = some b.e from rfl]
      simp only [Option.bind_some]
      rw [iha m _ h3 (by omega), ihb m _ h4 (by omega)]
      cases ha : a.bad <;> cases hb : b.bad <;> simp [Tr.bad, h5, ha, hb]
end
/-- The expressions of an act that is made: none, or one. -/
def xsOK (X : List Expr) : Prop := X = [] ∨ ∃ t : Tr, X = [t.e] ∧ t.ok ∧ t.dep ≤ 2
def aok (P : List Act → Prop) (a : Act) : Prop :=
  xsOK a.X ∧ a.Else = [] ∧ ((1 ≤ a.Kind ∧ a.Kind ≤ 5 ∧ a.Then = [] ∧ (a.Kind = 1 → a.X ≠ []) ∧ (a.Kind = 4 → a.X ≠ [])) ∨ (a.Kind = 7 ∧ a.X = [] ∧ 1 ≤ a.N ∧ a.N ≤ 4 ∧ P a.Then))
def BOK : Nat → List Act → Prop
  | 0, l => l.length ≤ 2 ∧ ∀ a ∈ l, aok (fun _ => False) a
  | d + 1, l => l.length ≤ 2 ∧ ∀ a ∈ l, aok (BOK d) a
def BP : Nat → List Act → Prop
  | 0 => fun _ => False
  | d + 1 => BOK d
theorem BOK_iff {d : Nat} {l : List Act} : BOK d l ↔ l.length ≤ 2 ∧ ∀ a ∈ l, aok (BP d) a := by cases d <;> rfl
section
variable {R : Type} {P : R → Prop} {N : Nat}
theorem event_ok (v : Int) (k : List UInt8 → Option R) : ∃ e, r37_Event N v k = k e := by
  obtain ⟨x, h0, h1, hx⟩ := place_ok (N := N) (v := v) (n := 8) (by omega) (by omega) (fun (r1 : Int) =>
    (at? [[103, 111], [112, 105, 110, 103], [112, 111, 110, 103], [101, 114, 114, 111, 114], [116, 48], [98, 97, 108, 108], [103, 111], [112, 105, 110, 103]] r1).bind fun e2 => k e2)
  unfold r37_Event
  refine ⟨([[103, 111], [112, 105, 110, 103], [112, 111, 110, 103], [101, 114, 114, 111, 114], [116, 48], [98, 97, 108, 108], [103, 111], [112, 105, 110, 103]] : List (List UInt8))[x.toNat]'(by simp; omega), hx.trans ?_⟩
  have : at? [[103, 111], [112, 105, 110, 103], [112, 111, 110, 103], [101, 114, 114, 111, 114], [116, 48], [98, 97, 108, 108], [103, 111], [112, 105, 110, 103]] x = some (([[103, 111], [112, 105, 110, 103], [112, 111, 110, 103], [101, 114, 114, 111, 114], [116, 48], [98, 97, 108, 108], [103, 111], [112, 105, 110, 103]] : List (List UInt8))[x.toNat]'(by simp; omega)) := by
    unfold at?; rw [if_neg (by omega), List.getElem?_eq_getElem]
  rw [this]
  rfl
theorem takeX {t : Tr} (ht : t.ok) (hd : t.dep ≤ 2) {q : Int} (h0 : 0 ≤ q) (h1 : q < 2) : xsOK ((([t.e] : List Expr).drop (Int.toNat 0)).take (q.toNat - (Int.toNat 0))) := by
  have : q = 0 ∨ q = 1 := by omega
  rcases this with rfl | rfl
  · exact .inl rfl
  · exact .inr ⟨t, rfl, ht, hd⟩
theorem block37 {V Po Ti : List (List UInt8)} (hV : V ≠ []) (hV2 : V.length ≤ 100) (hP : Po ≠ []) (hP2 : Po.length ≤ 100) (hT : Ti ≠ []) (hT2 : Ti.length ≤ 100) {L : List Int} (hL : L.length ≤ 1000) (hN : 200 < N) :
    ∀ (d m : Nat) (At : Int) (k : List Act → Int → Option R), d < m → d ≤ 100 → 0 ≤ At → At ≤ L.length →
    (∀ (l : List Act) (At' : Int), BOK d l → 0 ≤ At' → At' ≤ (L.length : Int) → Ok P (k l At')) → Ok P ((Fam_r37_Block_at N m).r37_Block R V Po Ti [] d L At k)
  | d, 0, _, _, h, _, _, _, _ => by omega
  | d, m + 1, At, k, hm, hd, h0, h1, hk => by
    show Ok P (r37_Block_d (Fam_r37_Block_at N m) N V Po Ti [] d L At k)
    unfold r37_Block_d
    refine next_ok (by omega) (by omega) h0 h1 hL _ fun x At' x0 x1 a0 a1 => ?_
    have key : ∀ (n : Nat) (c : Nat) (At : Int) (out : List Act), c < n → c ≤ 2 → out.length + c ≤ 2 → (∀ a ∈ out, aok (BP d) a) → 0 ≤ At → At ≤ (L.length : Int) →
        Ok P (r37_Block_l0 (Fam_r37_Block_at N m) N d L V Po Ti [] (fun (y72 : Int) (y73 : List Act) => k y73 y72) n (c : Int) At out) := by
      intro n
      induction n with
      | zero => intro c At out h; omega
      | succ n ih =>
        intro c At out hcn hc ho ha b0 b1
        show Ok P (r37_Block_l0_b (Fam_r37_Block_at N m) N d L V Po Ti [] (fun (y72 : Int) (y73 : List Act) => k y73 y72) (r37_Block_l0 (Fam_r37_Block_at N m) N d L V Po Ti [] (fun (y72 : Int) (y73 : List Act) => k y73 y72) n) (c : Int) At out)
        unfold r37_Block_l0_b
        by_cases hc0 : c = 0
        · subst hc0
          rw [if_neg (by simp)]
          exact hk out At (BOK_iff.2 ⟨by omega, ha⟩) b0 b1
        rw [if_pos (by simp; omega)]
        have hw : IntKind.wrap .i64 ((c : Int) - 1) = ((c - 1 : Nat) : Int) := by rw [wr _ (by omega) (by omega)]; omega
        rw [hw]
        have add : ∀ (a : Act) (At' : Int), aok (BP d) a → 0 ≤ At' → At' ≤ (L.length : Int) →
            Ok P (if out.length + [a].length ≤ maxRow then (r37_Block_l0 (Fam_r37_Block_at N m) N d L V Po Ti [] (fun (y72 : Int) (y73 : List Act) => k y73 y72) n ((c - 1 : Nat) : Int) At' (out ++ [a])) else none) := by
          intro a At' haa c0 c1
          rw [if_pos (by simp [maxRow]; omega)]
          exact ih (c - 1) At' (out ++ [a]) (by omega) (by omega) (by simp; omega) (fun b hb => by
            rcases List.mem_append.1 hb with hb | hb
            · exact ha b hb
            · simp at hb; subst hb; exact haa) c0 c1
        refine next_ok (by omega) (by omega) b0 b1 hL _ fun q At1 q0 q1 c0 c1 => ?_
        refine expr37 hV hV2 hL 2 N At1 _ (by omega) (by omega) c0 c1 fun t At2 t1 t2 d0 d1 => ?_
        rw [eta]
        have hV3 : decide (((V.length : Nat) : Int) > 0) = true := by have := List.length_pos_iff.2 hV; simp; omega
        have hP3 : decide (((Po.length : Nat) : Int) > 0) = true := by have := List.length_pos_iff.2 hP; simp; omega
        have hT3 : decide (((Ti.length : Nat) : Int) > 0) = true := by have := List.length_pos_iff.2 hT; simp; omega
        rw [hV3, hP3, hT3]
        have xt : xsOK [t.e] := .inr ⟨t, rfl, t1, t2⟩
        by_cases k1 : q < 3
        · rw [show decide (q < 3) = true by simpa using k1, ifB_tt, Option.bind_some, if_pos rfl]
          refine pick_ok hV hV2 d0 d1 hL _ fun x At3 e0 e1 => ?_
          exact add _ _ ⟨xt, rfl, .inl ⟨(by decide : (1 : Int) ≤ 1), (by decide : (1 : Int) ≤ 5), rfl, fun _ => by simp, fun _ => by simp⟩⟩ e0 e1
        rw [show decide (q < 3) = false by simpa using k1, ifB_ft, Option.bind_some, if_neg (by simp)]
        by_cases k2 : q = 3
        · rw [if_pos (by simpa using k2)]
          refine next_ok (by omega) (by omega) d0 d1 hL _ fun x At3 x0 x1 e0 e1 => ?_
          obtain ⟨ev, hev⟩ := event_ok (N := N) x (fun (r44 : List UInt8) =>
      r37_Row_Next N 2 L At3 (fun (r45 : Int) (r46 : Int) =>
      if (0 : Int) ≤ 0 ∧ 0 ≤ r45 ∧ r45 ≤ (([t.e].length : Nat) : Int) then (if out.length + ([(⟨2, [], r44, ([t.e].drop (Int.toNat 0)).take (r45.toNat - (Int.toNat 0)), 0, [], [], 0⟩ : Act)]).length ≤ maxRow then ((r37_Block_l0 (Fam_r37_Block_at N m) N d L V Po Ti [] (fun (y72 : Int) (y73 : List Act) => k y73 y72) n) ((c - 1 : Nat) : Int) r46 (out ++ ([(⟨2, [], r44, ([t.e].drop (Int.toNat 0)).take (r45.toNat - (Int.toNat 0)), 0, [], [], 0⟩ : Act)]))) else none) else none))
          rw [hev]
          refine next_ok (by omega) (by omega) e0 e1 hL _ fun z At4 z0 z1 f0 f1 => ?_
          rw [if_pos ⟨by omega, by omega, by simp; omega⟩]
          exact add _ _ ⟨takeX t1 t2 z0 z1, rfl, .inl ⟨(by decide : (1 : Int) ≤ 2), (by decide : (2 : Int) ≤ 5), rfl, fun h => by simp at h, fun h => by simp at h⟩⟩ f0 f1
        rw [if_neg (by simpa using k2)]
        by_cases k3 : q < 7
        · rw [show decide (q < 7) = true by simpa using k3, ifB_tt, Option.bind_some, if_pos rfl]
          refine pick_ok hP hP2 d0 d1 hL _ fun po At3 e0 e1 => ?_
          refine next_ok (by omega) (by omega) e0 e1 hL _ fun x At4 x0 x1 f0 f1 => ?_
          obtain ⟨ev, hev⟩ := event_ok (N := N) x (fun (r52 : List UInt8) =>
        r37_Row_Next N 2 L At4 (fun (r53 : Int) (r54 : Int) =>
        if (0 : Int) ≤ 0 ∧ 0 ≤ r53 ∧ r53 ≤ (([t.e].length : Nat) : Int) then (if out.length + ([(⟨3, po, r52, ([t.e].drop (Int.toNat 0)).take (r53.toNat - (Int.toNat 0)), 0, [], [], 0⟩ : Act)]).length ≤ maxRow then ((r37_Block_l0 (Fam_r37_Block_at N m) N d L V Po Ti [] (fun (y72 : Int) (y73 : List Act) => k y73 y72) n) ((c - 1 : Nat) : Int) r54 (out ++ ([(⟨3, po, r52, ([t.e].drop (Int.toNat 0)).take (r53.toNat - (Int.toNat 0)), 0, [], [], 0⟩ : Act)]))) else none) else none))
          rw [hev]
          refine next_ok (by omega) (by omega) f0 f1 hL _ fun z At5 z0 z1 g0 g1 => ?_
          rw [if_pos ⟨by omega, by omega, by simp; omega⟩]
          exact add _ _ ⟨takeX t1 t2 z0 z1, rfl, .inl ⟨(by decide : (1 : Int) ≤ 3), (by decide : (3 : Int) ≤ 5), rfl, fun h => by simp at h, fun h => by simp at h⟩⟩ g0 g1
        rw [show decide (q < 7) = false by simpa using k3, ifB_ft, Option.bind_some, if_neg (by simp)]
        by_cases k4 : q = 7
        · rw [show (q == 7) = true by simpa using k4, ifB_tt, Option.bind_some, if_pos rfl]
          refine pick_ok hT hT2 d0 d1 hL _ fun ti At3 e0 e1 => ?_
          refine next_ok (by omega) (by omega) e0 e1 hL _ fun x At4 x0 x1 f0 f1 => ?_
          exact add _ _ ⟨.inr ⟨.leaf 1 (IntKind.wrap .i64 (1 + x)) [], rfl, .inl rfl, by simp [Tr.dep]⟩, rfl, .inl ⟨(by decide : (1 : Int) ≤ 4), (by decide : (4 : Int) ≤ 5), rfl, fun h => by simp at h, fun h => by simp⟩⟩ f0 f1
        rw [show (q == 7) = false by simpa using k4, ifB_ft, Option.bind_some, if_neg (by simp)]
        by_cases k5 : q = 8
        · rw [show (q == 8) = true by simpa using k5, ifB_tt, Option.bind_some, if_pos rfl]
          refine pick_ok hT hT2 d0 d1 hL _ fun ti At3 e0 e1 => ?_
          exact add _ _ ⟨.inl rfl, rfl, .inl ⟨(by decide : (1 : Int) ≤ 5), (by decide : (5 : Int) ≤ 5), rfl, fun h => by simp at h, fun h => by simp at h⟩⟩ e0 e1
        rw [show (q == 8) = false by simpa using k5, ifB_ft, Option.bind_some, if_neg (by simp)]
        have q9 : q = 9 := by omega
        subst q9
        by_cases hd0 : d = 0
        · subst hd0
          rw [show decide (((0 : Nat) : Int) > 0) = false by decide, ifB_ft, Option.bind_some, if_neg (by simp), if_neg (by simp)]
          exact ih (c - 1) At2 out (by omega) (by omega) (by omega) ha d0 d1
        obtain ⟨d', rfl⟩ : ∃ d', d = d' + 1 := ⟨d - 1, by omega⟩
        have hd3 : decide (((d' + 1 : Nat) : Int) > 0) = true := by simp
        rw [hd3, ifB_tt, Option.bind_some]
        have hw2 : IntKind.wrap .i64 (((d' + 1 : Nat) : Int) - 1) = ((d' : Nat) : Int) := by rw [wr _ (by omega) (by omega)]; omega
        rw [if_neg (by decide), if_pos rfl, hw2]
        refine next_ok (by omega) (by omega) d0 d1 hL _ fun x At3 x0 x1 e0 e1 => ?_
        refine block37 hV hV2 hP hP2 hT hT2 hL hN d' m At3 _ (by omega) (by omega) e0 e1 fun l1 At4 hl1 f0 f1 => ?_
        have hwx : IntKind.wrap .i64 (1 + x) = 1 + x := wr _ (by omega) (by omega)
        exact add _ _ ⟨.inl rfl, rfl, .inr ⟨rfl, rfl, by show 1 ≤ IntKind.wrap .i64 (1 + x); omega, by show IntKind.wrap .i64 (1 + x) ≤ 4; omega, hl1⟩⟩ f0 f1
    obtain ⟨c, rfl⟩ : ∃ c : Nat, x = (c : Int) := ⟨x.toNat, by omega⟩
    exact key N c At' [] (by omega) (by omega) (by simp; omega) (by simp) a0 a1
end
def putS : List MR → MR → List MR
  | [], x => [x]
  | y :: r, x => if lessM y x = true then y :: putS r x else if y = x then x :: r else x :: y :: r
theorem mem_putS {x z : MR} : ∀ {l : List MR}, z ∈ putS l x ↔ z ∈ l ∨ z = x
  | [] => by simp [putS]
  | y :: r => by
    unfold putS
    split
    · rw [List.mem_cons, mem_putS, List.mem_cons]
      constructor
      · rintro (h | h | h)
        · exact .inl (.inl h)
        · exact .inl (.inr h)
        · exact .inr h
      · rintro ((h | h) | h)
        · exact .inl h
        · exact .inr (.inl h)
        · exact .inr (.inr h)
    · split
      · rename_i e; subst e
        simp only [List.mem_cons]
        constructor
        · rintro (h | h)
          · exact .inr h
          · exact .inl (.inr h)
        · rintro ((h | h) | h)
          · exact .inl h
          · exact .inr h
          · exact .inl h
      · simp only [List.mem_cons]
        constructor
        · rintro (h | h | h)
          · exact .inr h
          · exact .inl (.inl h)
          · exact .inl (.inr h)
        · rintro ((h | h) | h)
          · exact .inr (.inl h)
          · exact .inr (.inr h)
          · exact .inl h
theorem SS_putS {x : MR} : ∀ {l : List MR}, SS l → SS (putS l x)
  | [], _ => List.pairwise_singleton _ _
  | y :: r, h => by
    have h' := h
    unfold SS at h'
    rw [List.pairwise_cons] at h'
    unfold putS
    split
    · rename_i hlt
      exact List.pairwise_cons.2 ⟨fun z hz => by
        rcases mem_putS.1 hz with hz | rfl
        · exact h'.1 z hz
        · exact hlt, SS_putS h'.2⟩
    · rename_i hlt
      split
      · rename_i e; subst e
        exact h
      · rename_i hne
        have hxy : lessM x y = true := by
          cases h2 : lessM x y with
          | true => rfl
          | false => exact absurd (lessM_tot y x (by simpa using hlt) h2) hne
        exact List.pairwise_cons.2 ⟨fun z hz => by
          rcases List.mem_cons.1 hz with rfl | hz
          · exact hxy
          · exact lessM_trans _ _ _ hxy (h'.1 z hz), h⟩
theorem SS_nodup {l : List MR} (h : SS l) : l.Nodup := h.imp fun {a b} hab e => by subst e; rw [lessM_irr] at hab; cases hab
theorem SS_uniq : ∀ {a b : List MR}, SS a → SS b → (∀ x, x ∈ a ↔ x ∈ b) → a = b
  | [], [], _, _, _ => rfl
  | [], y :: b, _, _, h => by have := (h y).2 (by simp); simp at this
  | x :: a, [], _, _, h => by have := (h x).1 (by simp); simp at this
  | x :: a, y :: b, ha, hb, h => by
    have ha' := List.pairwise_cons.1 ha
    have hb' := List.pairwise_cons.1 hb
    have e : x = y := by
      rcases List.mem_cons.1 ((h x).1 (by simp)) with e | e
      · exact e
      · rcases List.mem_cons.1 ((h y).2 (by simp)) with e2 | e2
        · exact e2.symm
        · have h1 := hb'.1 x e
          have h2 := ha'.1 y e2
          have := lessM_trans _ _ _ h1 h2
          rw [lessM_irr] at this; cases this
    subst e
    congr 1
    refine SS_uniq ha'.2 hb'.2 fun z => ?_
    constructor
    · intro hz
      rcases List.mem_cons.1 ((h z).1 (List.mem_cons_of_mem _ hz)) with e | e
      · subst e
        have := ha'.1 z hz
        rw [lessM_irr] at this; cases this
      · exact e
    · intro hz
      rcases List.mem_cons.1 ((h z).2 (List.mem_cons_of_mem _ hz)) with e | e
      · subst e
        have := hb'.1 z hz
        rw [lessM_irr] at this; cases this
      · exact e
def putsS (l : List MR) (xs : List MR) : List MR := xs.foldl putS l
theorem mem_putsS {z : MR} : ∀ {xs l : List MR}, z ∈ putsS l xs ↔ z ∈ l ∨ z ∈ xs
  | [], l => by simp [putsS]
  | x :: xs, l => by
    have : putsS l (x :: xs) = putsS (putS l x) xs := rfl
    rw [this, mem_putsS, mem_putS, List.mem_cons]
    constructor
    · rintro ((h | h) | h)
      · exact .inl h
      · exact .inr (.inl h)
      · exact .inr (.inr h)
    · rintro (h | h | h)
      · exact .inl (.inl h)
      · exact .inl (.inr h)
      · exact .inr h
theorem SS_putsS : ∀ {xs l : List MR}, SS l → SS (putsS l xs)
  | [], l, h => h
  | x :: xs, l, h => SS_putsS (xs := xs) (SS_putS h)
theorem len_putS {x : MR} : ∀ {l : List MR}, (putS l x).length ≤ l.length + 1
  | [] => by simp [putS]
  | y :: r => by
    have := len_putS (x := x) (l := r)
    unfold putS
    split
    · simp; omega
    · split <;> simp
theorem len_putsS : ∀ {xs l : List MR}, (putsS l xs).length ≤ l.length + xs.length
  | [], l => by simp [putsS]
  | x :: xs, l => by
    have h1 := len_putsS (xs := xs) (l := putS l x)
    have h2 := len_putS (x := x) (l := l)
    have : putsS l (x :: xs) = putsS (putS l x) xs := rfl
    rw [this]
    simp; omega
/-- Rows whose marks are not many. -/
def Sh (l : List MR) : Prop := ∀ x ∈ l, x.length ≤ 200
section
variable {N : Nat}
theorem put_l0T {R : Type} {l : List MR} {x : MR} (hl : l.length ≤ 100000) {kp0 : Bool → List MR → Option R} : ∀ (n i : Nat) (out : List MR), i ≤ l.length → l.length - i < n → out.length + (l.length - i) ≤ 1000000 →
    r30_Put_l0 N l x kp0 n true (i : Int) out = kp0 true (out ++ l.drop i)
  | 0, _, _, _, h, _ => by omega
  | n + 1, i, out, h1, h2, h3 => by
    show r30_Put_l0_b N l x kp0 (r30_Put_l0 N l x kp0 n) true (i : Int) out = _
    unfold r30_Put_l0_b
    by_cases hlt : i < l.length
    · rw [if_pos (by simpa using hlt)]
      rw [show ifB (!true) true _ (some false) = some false from rfl, Option.bind_some, if_neg (by simp)]
      unfold r30_Put_c9
      obtain ⟨y, hy, hd⟩ := drop_cons hlt
      rw [at_nat, hy, Option.bind_some, if_pos (by simp [maxRow]; omega)]
      rw [wr _ (by omega) (by omega), show ((i : Int) + 1) = ((i + 1 : Nat) : Int) by omega]
      simp only []
      rw [put_l0T hl n (i + 1) (out ++ [y]) (by omega) (by omega) (by simp; omega), hd]
      simp
    · rw [if_neg (by simpa using hlt), List.drop_eq_nil_of_le (by omega)]
      simp
theorem look_l0 {R : Type} {t f : List MR} (ht : t.length ≤ 100000) {kp0 : Bool → Option R} : ∀ (n i : Nat) (b : Bool), i ≤ t.length → t.length - i < n → r30_rows_look_l0 N t f kp0 n (i : Int) b = kp0 (b || (t.drop i).any fun x => decide (64 < x.length))
  | 0, _, _, _, h => by omega
  | n + 1, i, b, h1, h2 => by
    show r30_rows_look_l0_b N t f kp0 (r30_rows_look_l0 N t f kp0 n) (i : Int) b = _
    unfold r30_rows_look_l0_b
    by_cases hlt : i < t.length
    · rw [if_pos (by simpa using hlt)]
      obtain ⟨y, hy, hd⟩ := drop_cons hlt
      rw [at_nat, hy, Option.bind_some]
      have : ifB b false (some (decide (((y.length : Nat) : Int) > 64))) (some true) = some (b || decide (64 < y.length)) := by
        have e : decide (((y.length : Nat) : Int) > 64) = decide (64 < y.length) := by apply decide_eq_decide.2; omega
        rw [e]
        cases b <;> rfl
      rw [this, Option.bind_some, wr _ (by omega) (by omega), show ((i : Int) + 1) = ((i + 1 : Nat) : Int) by omega]
      rw [look_l0 ht n (i + 1) _ (by omega) (by omega), hd, List.any_cons, Bool.or_assoc]
    · rw [if_neg (by simpa using hlt), List.drop_eq_nil_of_le (by omega)]
      simp
theorem look_l2 {R : Type} {t f : List MR} (ht : f.length ≤ 100000) {kp0 : Bool → Option R} : ∀ (n i : Nat) (b : Bool), i ≤ f.length → f.length - i < n → r30_rows_look_l2 N t f kp0 n (i : Int) b = kp0 (b || (f.drop i).any fun x => decide (64 < x.length))
  | 0, _, _, _, h => by omega
  | n + 1, i, b, h1, h2 => by
    show r30_rows_look_l2_b N t f kp0 (r30_rows_look_l2 N t f kp0 n) (i : Int) b = _
    unfold r30_rows_look_l2_b
    by_cases hlt : i < f.length
    · rw [if_pos (by simpa using hlt)]
      obtain ⟨y, hy, hd⟩ := drop_cons hlt
      rw [at_nat, hy, Option.bind_some]
      have : ifB b false (some (decide (((y.length : Nat) : Int) > 64))) (some true) = some (b || decide (64 < y.length)) := by
        have e : decide (((y.length : Nat) : Int) > 64) = decide (64 < y.length) := by apply decide_eq_decide.2; omega
        rw [e]
        cases b <;> rfl
      rw [this, Option.bind_some, wr _ (by omega) (by omega), show ((i : Int) + 1) = ((i + 1 : Nat) : Int) by omega]
      rw [look_l2 ht n (i + 1) _ (by omega) (by omega), hd, List.any_cons, Bool.or_assoc]
    · rw [if_neg (by simpa using hlt), List.drop_eq_nil_of_le (by omega)]
      simp
end
section
variable {N : Nat} (hN : maxRow < N)
include hN
theorem same_eq {R : Type} {a b : MR} (ha : a.length ≤ 400) (hb : b.length ≤ 400) {k : Bool → Option R} : r30_Same N a b k = k (decide (a = b)) := by
  simp only [maxRow] at hN
  unfold r30_Same
  rw [rless_eq a b (by omega) (by unfold big; omega)]
  rw [rless_eq (R := Bool) b a (by omega) (by unfold big; omega)]
  cases h1 : lessM a b with
  | true =>
    rw [show ifB (!true) true (some (!lessM b a)) (some false) = some false from rfl, Option.bind_some]
    congr 1
    symm
    rw [decide_eq_false_iff_not]
    rintro rfl
    rw [lessM_irr] at h1; cases h1
  | false =>
    rw [show ifB (!false) true (some (!lessM b a)) (some false) = some (!lessM b a) from rfl, Option.bind_some]
    congr 1
    cases h2 : lessM b a with
    | true =>
      symm
      rw [Bool.not_true, decide_eq_false_iff_not]
      rintro rfl
      rw [lessM_irr] at h2; cases h2
    | false =>
      symm
      rw [Bool.not_false, decide_eq_true_eq]
      exact lessM_tot a b h1 h2
theorem put_l0F {R : Type} {l : List MR} {x : MR} (hl : l.length ≤ 100000) (hx : x.length ≤ 400) (hs : ∀ y ∈ l, y.length ≤ 400) {k0 : List MR → Option R} {kp0 : Bool → List MR → Option R} (hT : ∀ y, kp0 true y = k0 y) (hF : ∀ y, y.length ≤ 900000 → kp0 false y = k0 (y ++ [x])) : ∀ (n i : Nat) (out : List MR), i ≤ l.length → l.length - i < n → out.length + (l.length - i) ≤ 900000 →
    r30_Put_l0 N l x kp0 n false (i : Int) out = k0 (out ++ putS (l.drop i) x)
  | 0, _, _, _, h, _ => by omega
  | n + 1, i, out, h1, h2, h3 => by
    show r30_Put_l0_b N l x kp0 (r30_Put_l0 N l x kp0 n) false (i : Int) out = _
    unfold r30_Put_l0_b
    by_cases hlt : i < l.length
    · rw [if_pos (by simpa using hlt)]
      obtain ⟨y, hy, hd⟩ := drop_cons hlt
      have hyl := hs y (get_mem hy)
      have hN' := hN
      simp only [maxRow] at hN'
      rw [at_nat, hy, Option.bind_some]
      rw [rless_eq (R := Bool) y x (by omega) (by unfold big; omega)]
      rw [show ifB (!false) true (some (!lessM y x)) (some false) = some (!lessM y x) from rfl, Option.bind_some]
      have hw : IntKind.wrap .i64 ((i : Int) + 1) = ((i + 1 : Nat) : Int) := by rw [wr _ (by omega) (by omega)]; omega
      rw [hw, hd]
      unfold putS
      cases h4 : lessM y x with
      | true =>
        rw [if_neg (by simp), if_pos rfl]
        unfold r30_Put_c9
        rw [at_nat, hy, Option.bind_some, if_pos (by simp [maxRow]; omega)]
        simp only []
        rw [put_l0F hl hx hs hT hF n (i + 1) (out ++ [y]) (by omega) (by omega) (by simp; omega)]
        simp
      | false =>
        rw [if_pos (show (!false) = true from rfl), if_pos (show out.length + [x].length ≤ maxRow by simp [maxRow]; omega), if_neg (show ¬ (false = true) by simp), Option.bind_some]
        rw [same_eq hN hyl hx]
        by_cases e : y = x
        · subst e
          rw [if_pos (by simp), if_pos rfl]
          rw [put_l0T hl n (i + 1) (out ++ [y]) (by omega) (by omega) (by simp; omega), hT]
          simp
        · rw [if_neg (by simpa using e), if_neg e]
          unfold r30_Put_c9
          rw [at_nat, hy, Option.bind_some, if_pos (by simp [maxRow]; omega)]
          simp only []
          rw [put_l0T hl n (i + 1) ((out ++ [x]) ++ [y]) (by omega) (by omega) (by simp; omega), hT]
          simp
    · rw [if_neg (by simpa using hlt), List.drop_eq_nil_of_le (by omega)]
      rw [hF out (by omega)]
      rfl
theorem put_eq30 {R : Type} {l : List MR} {x : MR} (hl : l.length ≤ 100000) (hx : x.length ≤ 400) (hs : ∀ y ∈ l, y.length ≤ 400) {k0 : List MR → Option R} : r30_Put N l x k0 = k0 (putS l x) := by
  unfold r30_Put
  simp only [maxRow] at hN
  have := put_l0F (N := N) (by simpa only [maxRow] using hN) hl hx hs (k0 := k0) (kp0 := fun (y19 : Bool) (y20 : List (List Mark)) => if (!y19) = true then (if y20.length + [x].length ≤ maxRow then (k0 (y20 ++ [x])) else none) else (k0 y20)) (fun y => by simp) (fun y hy => by simp [maxRow]; omega) N 0 [] (by omega) (by omega) (by simp; omega)
  simpa using this
theorem fail_l0 {R : Type} {t : List MR} {many : Bool} (ht : t.length ≤ 1000) (hs : Sh t) {kp0 : List MR → Option R} : ∀ (n i : Nat) (f : List MR), i ≤ t.length → t.length - i < n → f.length + (t.length - i) ≤ 90000 → Sh f →
    r30_rows_fail_l0 N t many kp0 n (i : Int) f = kp0 (putsS f (t.drop i))
  | 0, _, _, _, h, _, _ => by omega
  | n + 1, i, f, h1, h2, h3, h4 => by
    show r30_rows_fail_l0_b N t many kp0 (r30_rows_fail_l0 N t many kp0 n) (i : Int) f = _
    unfold r30_rows_fail_l0_b
    by_cases hlt : i < t.length
    · rw [if_pos (by simpa using hlt)]
      obtain ⟨y, hy, hd⟩ := drop_cons hlt
      have hyl := hs y (get_mem hy)
      rw [at_nat, hy, Option.bind_some, put_eq30 hN (by omega) (by omega) (fun z hz => by have := h4 z hz; omega)]
      rw [wr _ (by omega) (by omega), show ((i : Int) + 1) = ((i + 1 : Nat) : Int) by omega]
      have := len_putS (x := y) (l := f)
      rw [fail_l0 ht hs n (i + 1) (putS f y) (by omega) (by omega) (by omega) (fun z hz => by rcases mem_putS.1 hz with h | rfl; exact h4 z h; exact hyl), hd]
      rfl
    · rw [if_neg (by simpa using hlt), List.drop_eq_nil_of_le (by omega)]
      rfl
theorem fail_eq30 {R : Type} {t f : List MR} {many : Bool} (ht : t.length ≤ 1000) (hf : f.length ≤ 1000) (hs : Sh t) (hs2 : Sh f) {k0 : List MR → Option R} : r30_rows_fail N t f many k0 = k0 (putsS f t) := by
  unfold r30_rows_fail
  simp only [maxRow] at hN
  have := fail_l0 (N := N) (by simpa only [maxRow] using hN) (many := many) ht hs (kp0 := fun (y7 : List (List Mark)) => k0 y7) N 0 f (by omega) (by omega) (by omega) hs2
  simpa using this
/-- Each with one mark behind. -/
theorem behind_one {R : Type} {t : List MR} {m : Mark} (ht : t.length ≤ 1000) (hs : Sh t) {k0 : List MR → Option R} : r30_behind N t [[m]] k0 = k0 (putsS [] (t.map (· ++ [m]))) := by
  have hN' := hN
  simp only [maxRow] at hN'
  have l2 : ∀ (i : Nat) (y : MR) (to : List MR) (kp0 : List MR → Option R), t[i]? = some y → to.length ≤ 90000 → (∀ z ∈ to, z.length ≤ 201) → r30_behind_l2 N t [[m]] (i : Int) kp0 N to 0 = kp0 (putS to (y ++ [m])) := by
    intro i y to kp0 hy hto hto2
    obtain ⟨N', rfl⟩ : ∃ N', N = N' + 2 := ⟨N - 2, by omega⟩
    have hyl := hs y (get_mem hy)
    show r30_behind_l2_b (N' + 2) t [[m]] (i : Int) kp0 (r30_behind_l2 (N' + 2) t [[m]] (i : Int) kp0 (N' + 1)) to 0 = _
    unfold r30_behind_l2_b
    rw [if_pos (by simp), at_nat, hy, Option.bind_some, if_pos (by simp [maxRow]; omega)]
    rw [show at? [[m]] 0 = some [m] from rfl, Option.bind_some, if_pos (by simp [maxRow]; omega)]
    rw [put_eq30 hN (by omega) (by simp; omega) (fun z hz => by have := hto2 z hz; omega)]
    rw [wr _ (by omega) (by omega)]
    show r30_behind_l2_b (N' + 2) t [[m]] (i : Int) kp0 (r30_behind_l2 (N' + 2) t [[m]] (i : Int) kp0 N') (putS to (([] ++ y) ++ [m])) (0 + 1) = _
    unfold r30_behind_l2_b
    rw [if_neg (by simp), List.nil_append]
  have l0 : ∀ (n i : Nat) (to : List MR), i ≤ t.length → t.length - i < n → to.length + (t.length - i) ≤ 80000 → (∀ z ∈ to, z.length ≤ 201) →
      r30_behind_l0 N t [[m]] (fun (y25 : List (List Mark)) => k0 y25) n to (i : Int) = k0 (putsS to ((t.drop i).map (· ++ [m]))) := by
    intro n
    induction n with
    | zero => intro i to h1 h2; omega
    | succ n ih =>
      intro i to h1 h2 h3 h4
      show r30_behind_l0_b N t [[m]] (fun (y25 : List (List Mark)) => k0 y25) (r30_behind_l0 N t [[m]] (fun (y25 : List (List Mark)) => k0 y25) n) to (i : Int) = _
      unfold r30_behind_l0_b
      by_cases hlt : i < t.length
      · rw [if_pos (by simpa using hlt)]
        obtain ⟨y, hy, hd⟩ := drop_cons hlt
        rw [l2 i y to _ hy (by omega) h4]
        rw [wr _ (by omega) (by omega), show ((i : Int) + 1) = ((i + 1 : Nat) : Int) by omega]
        have := len_putS (x := y ++ [m]) (l := to)
        rw [ih (i + 1) _ (by omega) (by omega) (by omega) (fun z hz => by
          rcases mem_putS.1 hz with h | rfl
          · exact h4 z h
          · have := hs y (get_mem hy); simp; omega), hd]
        rfl
      · rw [if_neg (by simpa using hlt), List.drop_eq_nil_of_le (by omega)]
        rfl
  unfold r30_behind
  have := l0 N 0 [] (by omega) (by omega) (by simp; omega) (by simp)
  simpa using this
theorem place_eq30 {R : Type} {s : List (List UInt8)} {v : List UInt8} (hs : s.length < maxRow) {k : Int → Option R} : r30_place N s v k = k (idxS s v 0) := by
  have l0 : ∀ (n i : Nat), i ≤ s.length → s.length - i < n → r30_place_l0 N s v (k (-1)) (fun (y5 : Int) => k y5) n (i : Int) = k (idxS (s.drop i) v (i : Int)) := by
    simp only [maxRow] at hs
    intro n
    induction n with
    | zero => intro i h1 h2; omega
    | succ n ih =>
      intro i h1 h2
      show r30_place_l0_b N s v (k (-1)) (fun (y5 : Int) => k y5) (r30_place_l0 N s v (k (-1)) (fun (y5 : Int) => k y5) n) (i : Int) = _
      unfold r30_place_l0_b
      by_cases hlt : i < s.length
      · rw [if_pos (by simpa using hlt), at_nat]
        obtain ⟨x, hx, hd⟩ := drop_cons hlt
        rw [hx, hd]
        simp only [Option.bind_some, idxS]
        by_cases e : v = x
        · rw [if_pos (by simp [e]), if_pos e]
        · rw [if_neg (by simp; exact fun h => e h.symm), if_neg e]
          rw [wr _ (by omega) (by omega), show ((i : Int) + 1) = ((i + 1 : Nat) : Int) by omega]
          exact ih (i + 1) (by omega) (by omega)
      · rw [if_neg (by simpa using hlt), List.drop_eq_nil_of_le (by omega)]
        rfl
  unfold r30_place
  simp only [maxRow] at hs hN
  exact l0 N 0 (by omega) (by omega)
theorem look_eq {R : Type} {t f : List MR} (ht : t.length ≤ 100000) (hf : f.length ≤ 100000) {many : Bool} {k : Bool → Option R} : r30_rows_look N t f many k = k (many || !small t || !small f) := by
  have hN' := hN
  simp only [maxRow] at hN'
  unfold r30_rows_look
  have e : ∀ (l : List MR), decide (((l.length : Nat) : Int) > 64) = decide (64 < l.length) := fun l => by apply decide_eq_decide.2; omega
  have c1 : ∀ b : Bool, ∀ l : List MR, ifB b false (some (decide (((l.length : Nat) : Int) > 64))) (some true) = some (b || decide (64 < l.length)) := fun b l => by rw [e]; cases b <;> rfl
  rw [c1, Option.bind_some, c1, Option.bind_some]
  rw [show (0 : Int) = ((0 : Nat) : Int) from rfl, look_l0 ht N 0 _ (by omega) (by omega), look_l2 hf N 0 _ (by omega) (by omega)]
  congr 1
  have sm : ∀ l : List MR, (!small l) = (decide (64 < l.length) || (l.drop 0).any fun x => decide (64 < x.length)) := by
    intro l
    rw [Bool.eq_iff_iff]
    simp only [small, Bool.not_eq_true', Bool.and_eq_false_iff, decide_eq_false_iff_not, List.all_eq_false, Bool.or_eq_true, decide_eq_true_eq, List.any_eq_true, List.drop_zero]
    constructor
    · rintro (h | ⟨x, hx, h⟩)
      · exact .inl (by omega)
      · exact .inr ⟨x, hx, by omega⟩
    · rintro (h | ⟨x, hx, h⟩)
      · exact .inl (by omega)
      · exact .inr ⟨x, hx, by omega⟩
  rw [sm, sm]
  generalize decide (64 < t.length) = a
  generalize decide (64 < f.length) = b
  generalize ((List.drop 0 t).any fun x => decide (64 < x.length)) = c
  generalize ((List.drop 0 f).any fun x => decide (64 < x.length)) = d
  cases many <;> cases a <;> cases b <;> cases c <;> cases d <;> rfl
end
noncomputable def flX (N : Nat) (X : List Expr) : Bool := (slices_ContainsFunc_Expr N X (fun b => some b)).getD false
theorem fl_nil {R : Type} {N : Nat} (hN : 10 < N) (k : Bool → Option R) : slices_ContainsFunc_Expr N [] k = k false := by
  obtain ⟨N, rfl⟩ : ∃ q, N = q + 3 := ⟨N - 3, by omega⟩
  rfl
theorem fl_one {R : Type} {N : Nat} (hN : 100 < N) {t : Tr} (h1 : t.ok) (h2 : t.dep ≤ 2) (k : Bool → Option R) : slices_ContainsFunc_Expr N [t.e] k = k t.bad := by
  obtain ⟨M, rfl⟩ : ∃ q, N = q + 3 := ⟨N - 3, by omega⟩
  show slices_IndexFunc_Expr_l0_b (Fam_effect_may_at (M + 3) (M + 1)) (M + 3) [t.e] ((([t.e].length : Nat) : Int)) (k (decide ((-1 : Int) ≥ 0))) (fun (y6 : Int) => k (decide (y6 ≥ 0))) (slices_IndexFunc_Expr_l0 (Fam_effect_may_at (M + 3) (M + 1)) (M + 3) [t.e] ((([t.e].length : Nat) : Int)) (k (decide ((-1 : Int) ≥ 0))) (fun (y6 : Int) => k (decide (y6 ≥ 0))) (M + 2)) 0 = k t.bad
  unfold slices_IndexFunc_Expr_l0_b
  rw [if_pos (by simp)]
  rw [show at? [t.e] 0 = some t.e from rfl, Option.bind_some, may30 (by omega) t (M + 1) _ h1 (by omega)]
  cases t.bad with
  | true => rfl
  | false =>
    rw [if_neg (by simp), wr _ (by omega) (by omega)]
    rfl
theorem flX_nil {N : Nat} (hN : 100 < N) : flX N [] = false := by unfold flX; rw [fl_nil (by omega)]; rfl
theorem flX_one {N : Nat} (hN : 100 < N) {t : Tr} (h1 : t.ok) (h2 : t.dep ≤ 2) : flX N [t.e] = t.bad := by unfold flX; rw [fl_one hN h1 h2]; rfl
theorem fl_spec {N : Nat} (hN : 100 < N) {X : List Expr} (h : xsOK X) : slices_ContainsFunc_Expr N X (fun b => some b) = some (flX N X) := by
  rcases h with rfl | ⟨t, rfl, h1, h2⟩
  · rw [fl_nil (by omega), flX_nil hN]
  · rw [fl_one hN h1 h2, flX_one hN h1 h2]
theorem errs_spec {N : Nat} (hN : 100 < N) {X : List Expr} (h : xsOK X) : (ifB (decide (((X.length : Nat) : Int) > 0)) true ((at? X 0).bind fun e1 =>
  r30_errs N e1.Kind e1.N e1.Name e1.Kids e1.At (fun (r2 : Bool) => some r2)) (some false)) = some (flX N X) := by
  rcases h with rfl | ⟨t, rfl, h1, h2⟩
  · rw [flX_nil hN]; rfl
  · rw [flX_one hN h1 h2, show at? [t.e] 0 = some t.e from rfl, Option.bind_some]
    unfold r30_errs
    rw [errs30 (by omega) t N _ h1 (by omega)]
    rfl
theorem dep_BOK {N : Nat} (hN : 100 < N) : ∀ {d : Nat} {l : List Act}, BOK d l → dep N (flX N) (d + 1) l := by
  intro d
  induction d with
  | zero =>
    intro l h
    obtain ⟨h1, h2⟩ := BOK_iff.1 h
    refine ⟨by simp only [maxRow]; omega, fun a ha => ?_⟩
    obtain ⟨x, _, y⟩ := h2 a ha
    refine ⟨fl_spec hN x, fun k => ?_, fun k => ?_⟩
    · rcases y with ⟨_, y, _⟩ | ⟨y, _⟩ <;> omega
    · rcases y with ⟨_, y, _⟩ | ⟨_, _, _, _, y⟩
      · omega
      · exact y.elim
  | succ d ih =>
    intro l h
    obtain ⟨h1, h2⟩ := BOK_iff.1 h
    refine ⟨by simp only [maxRow]; omega, fun a ha => ?_⟩
    obtain ⟨x, _, y⟩ := h2 a ha
    refine ⟨fl_spec hN x, fun k => ?_, fun k => ?_⟩
    · rcases y with ⟨_, y, _⟩ | ⟨y, _⟩ <;> omega
    · rcases y with ⟨_, y, _⟩ | ⟨_, _, _, _, y⟩
      · omega
      · exact ih y
def bst : Nat → Nat
  | 0 => 2200000
  | d + 1 => 2 * (1100000 + 5 * bst d)
theorem cst_nil : ∀ d, cst d [] = 0
  | 0 => rfl
  | _ + 1 => rfl
theorem cstL_le {g : Act → Nat} {B : Nat} : ∀ {l : List Act}, (∀ a ∈ l, g a ≤ B) → cstL g l ≤ l.length * B
  | [], _ => by simp [cstL]
  | a :: r, h => by
    have h1 := h a (by simp)
    have h2 := cstL_le (l := r) fun b hb => h b (List.mem_cons_of_mem _ hb)
    simp only [cstL, List.length_cons]
    rw [Nat.succ_mul]
    omega
theorem cst_BOK : ∀ {d : Nat} {l : List Act}, BOK d l → cst (d + 1) l ≤ bst d := by
  intro d
  induction d with
  | zero =>
    intro l h
    obtain ⟨h1, h2⟩ := BOK_iff.1 h
    have : cst 1 l ≤ l.length * 1100000 := cstL_le fun a ha => by simp [cst]
    have h3 : l.length * 1100000 ≤ 2 * 1100000 := Nat.mul_le_mul_right _ h1
    show cst 1 l ≤ bst 0
    simp only [bst]; omega
  | succ d ih =>
    intro l h
    obtain ⟨h1, h2⟩ := BOK_iff.1 h
    have : cst (d + 2) l ≤ l.length * (1100000 + 5 * bst d) := cstL_le fun a ha => by
      obtain ⟨x, y1, y⟩ := h2 a ha
      rw [y1, cst_nil]
      rcases y with ⟨_, _, y, _⟩ | ⟨_, _, y2, y3, y⟩
      · rw [y, cst_nil]; omega
      · have := ih y
        have hr : rnd a ≤ 4 := by unfold rnd; split <;> omega
        have h5 : rnd a * cst (d + 1) a.Then ≤ 4 * cst (d + 1) a.Then := Nat.mul_le_mul_right _ hr
        omega
    have h3 : l.length * (1100000 + 5 * bst d) ≤ 2 * (1100000 + 5 * bst d) := Nat.mul_le_mul_right _ h1
    show cst (d + 2) l ≤ bst (d + 1)
    simp only [bst]; omega

/-- Rows that may be read on. -/
def Semi (f : List MR) : Prop := f.length ≤ 128 ∧ ∀ x ∈ f, x.length ≤ 64
/-- The reference's rows stand for this. -/
structure RS (t f : List MR) (many : Bool) (o : Option St2) : Prop where
  st : SS t
  sf : SS f
  so : ∀ T F, o = some (T, F) → many = false ∧ Alike t T ∧ Alike f F ∧ T.Nodup ∧ F.Nodup ∧ small t = true ∧ small f = true
  no : o = none → many = true ∨ small f = false
  ok : many = false → small t = true ∧ Semi f
  dm : o = none → many = false → ∀ x ∈ t, x ∈ f
  bd : t.length ≤ 1000 ∧ f.length ≤ 1000
theorem small_iff {X : List MR} : small X = true ↔ X.length ≤ 64 ∧ ∀ x ∈ X, x.length ≤ 64 := by
  simp only [small, Bool.and_eq_true, decide_eq_true_eq, List.all_eq_true]
theorem Semi_of {X : List MR} (h : small X = true) : Semi X := by
  obtain ⟨h1, h2⟩ := small_iff.1 h
  exact ⟨by omega, h2⟩
theorem RS.fail {t f : List MR} {o : Option St2} (h : RS t f false o) : RS t (putsS f t) false (o.bind failS) := by
  have al : ∀ x, x ∈ putsS f t ↔ x ∈ f ∨ x ∈ t := fun x => mem_putsS
  have hs1 : SS (putsS f t) := SS_putsS h.sf
  obtain ⟨ok1, ok2⟩ := h.ok rfl
  cases o with
  | none =>
    have hd := h.dm rfl rfl
    have e : putsS f t = f := SS_uniq hs1 h.sf fun x => by rw [al]; exact ⟨fun hx => hx.elim id (hd x), .inl⟩
    rw [e]
    exact ⟨h.st, h.sf, fun T F e => (by cases e), fun _ => h.no rfl, h.ok, fun _ _ => hd, h.bd⟩
  | some p =>
    obtain ⟨T, F⟩ := p
    obtain ⟨_, a1, a2, a3, a4, s1, s2⟩ := h.so T F rfl
    have al2 : Alike (putsS f t) (un F T) := fun x => by rw [al, mem_un, a1 x, a2 x]
    have hn : (un F T).Nodup := nodup_un a4
    have hsm := al2.small (SS_nodup hs1) hn
    obtain ⟨t1, t2⟩ := small_iff.1 s1
    obtain ⟨f1, f2⟩ := small_iff.1 s2
    have hsemi : Semi (putsS f t) := ⟨by have := len_putsS (xs := t) (l := f); omega, fun x hx => by
      rcases (al x).1 hx with hx | hx
      · exact f2 x hx
      · exact t2 x hx⟩
    simp only [Option.bind_some, failS]
    cases hq : small (un F T) with
    | true =>
      rw [if_pos rfl]
      exact ⟨h.st, hs1, fun T' F' e => (by cases e; exact ⟨rfl, a1, al2, a3, hn, s1, by rw [hsm, hq]⟩), fun e => (by cases e), fun _ => ⟨s1, hsemi⟩, fun e => (by cases e), by omega, by have := hsemi.1; omega⟩
    | false =>
      rw [if_neg (by simp)]
      exact ⟨h.st, hs1, fun T' F' e => (by cases e), fun _ => .inr (by rw [hsm, hq]), fun _ => ⟨s1, hsemi⟩, fun _ _ x hx => (al x).2 (.inr hx), by omega, by have := hsemi.1; omega⟩
theorem RS.mark {t f : List MR} {o : Option St2} (h : RS t f false o) (m : Mark) : RS (putsS [] (t.map (· ++ [m]))) f (false || !small (putsS [] (t.map (· ++ [m]))) || !small f) (o.bind (markS m)) := by
  have al : ∀ x, x ∈ putsS [] (t.map (· ++ [m])) ↔ ∃ y ∈ t, y ++ [m] = x := fun x => by rw [mem_putsS]; simp
  have hs1 : SS (putsS [] (t.map (· ++ [m]))) := SS_putsS List.Pairwise.nil
  have hbd : (putsS [] (t.map (· ++ [m]))).length ≤ 1000 ∧ f.length ≤ 1000 := ⟨by
    have h1 := len_putsS (xs := t.map (· ++ [m])) (l := [])
    have h2 := h.bd.1
    simp at h1; omega, h.bd.2⟩
  cases o with
  | none =>
    have hf : small f = false := (h.no rfl).resolve_left (by simp)
    have e : (false || !small (putsS [] (t.map (· ++ [m]))) || !small f) = true := by rw [hf]; simp
    rw [e]
    exact ⟨hs1, h.sf, fun T F e => (by cases e), fun _ => .inl rfl, fun e => (by cases e), fun _ e => (by cases e), hbd⟩
  | some p =>
    obtain ⟨T, F⟩ := p
    obtain ⟨_, a1, a2, a3, a4, s1, s2⟩ := h.so T F rfl
    have al2 : Alike (putsS [] (t.map (· ++ [m]))) (T.map (· ++ [m])) := fun x => by
      rw [al, List.mem_map]
      constructor
      · rintro ⟨y, hy, rfl⟩; exact ⟨y, (a1 y).1 hy, rfl⟩
      · rintro ⟨y, hy, rfl⟩; exact ⟨y, (a1 y).2 hy, rfl⟩
    have hn := nodup_map_app (m := m) a3
    have hsm := al2.small (SS_nodup hs1) hn
    simp only [Option.bind_some, markS]
    rw [hsm, s2]
    cases hq : small (T.map (· ++ [m])) with
    | true =>
      rw [if_pos rfl]
      rw [hq] at hsm
      exact ⟨hs1, h.sf, fun T' F' e => (by cases e; exact ⟨rfl, al2, a2, hn, a4, hsm, s2⟩), fun e => (by cases e), fun _ => ⟨hsm, Semi_of s2⟩, fun e => (by cases e), hbd⟩
    | false =>
      rw [if_neg (by simp)]
      exact ⟨hs1, h.sf, fun T' F' e => (by cases e), fun _ => .inl rfl, fun e => (by cases e), fun _ e => (by cases e), hbd⟩
/-- Behind a look. -/
theorem RS.look {t f : List MR} {many : Bool} {o : Option St2} (h : RS t f many o) : RS t f (many || !small t || !small f) o := by
  refine ⟨h.st, h.sf, fun T F e => ?_, fun e => ?_, fun e => ?_, fun e e2 => ?_, h.bd⟩
  · obtain ⟨a, b, c, d, d2, s1, s2⟩ := h.so T F e
    exact ⟨by rw [a, s1, s2]; rfl, b, c, d, d2, s1, s2⟩
  · rcases h.no e with hm | hm
    · left; rw [hm]; simp
    · left; rw [hm]; simp
  · simp only [Bool.or_eq_false_iff, Bool.not_eq_false'] at e
    exact ⟨e.1.2, Semi_of e.2⟩
  · simp only [Bool.or_eq_false_iff, Bool.not_eq_false'] at e2
    rcases h.no e with hm | hm
    · rw [e2.1.1] at hm; cases hm
    · rw [e2.2] at hm; cases hm
section
variable {N : Nat} (hN : maxRow < N) {V P Tm : List (List UInt8)} {Nd : List Node} (hP : P.length < maxRow)
def RBlk (N : Nat) (V P Tm : List (List UInt8)) (Nd : List Node) (d e : Nat) : Prop :=
  ∀ (l : List Act), BOK d l → ∀ (t f : List MR) (many : Bool) (o : Option St2) (k : List MR → List MR → Bool → Option Unit), RS t f many o →
    (∀ t' f' many', RS t' f' many' (o.bind (sp (flX N) P (d + 1) l)) → k t' f' many' = some ()) →
    (Fam_r30_rows_block_at N e).r30_rows_block_2 Unit l V P Tm Nd t f many k = some ()
include hN hP
theorem ract_c3 {d e : Nat} {a : Act} (ha : aok (BP d) a) (ih : ∀ d', d = d' + 1 → RBlk N V P Tm Nd d' e) {t f : List MR} {o : Option St2} (h : RS t f false o) {k : List MR → List MR → Bool → Option Unit} {kp1 : Bool → Option Unit}
    (hk : ∀ t' f' many', t'.length ≤ 100000 → f'.length ≤ 100000 → RS t' f' (many' || !small t' || !small f') (o.bind fun s => if (a.Kind == 2) = true then markS ⟨-1, a.Event⟩ s
  else if (a.Kind == 3) = true then markS ⟨idxS P a.Name 0, a.Event⟩ s
  else if (a.Kind == 6) = true then (sp (flX N) P d a.Then ([[]], [])).bind fun y => (sp (flX N) P d a.Else ([[]], [])).bind fun z => choiceS y z s
  else if (a.Kind == 7) = true then loopS (sp (flX N) P d a.Then) (if 16 < a.N then 16 else a.N).toNat s
  else some s) → k t' f' many' = some ()) :
    r30_rows_act_c3 (Fam_r30_rows_block_at N e) N t f false a.Kind a.Name a.Event a.X a.N a.Then a.Else a.At V P Tm Nd k kp1 = some () := by
  have hN' := hN
  simp only [maxRow] at hN'
  obtain ⟨ok1, ok2⟩ := h.ok rfl
  obtain ⟨t1, t2⟩ := small_iff.1 ok1
  obtain ⟨f1, f2⟩ := ok2
  have hsh : Sh t := fun x hx => by have := t2 x hx; omega
  obtain ⟨_, _, hkd⟩ := ha
  unfold r30_rows_act_c3
  by_cases k2 : (a.Kind == 2) = true
  · rw [if_pos k2]
    simp only [if_pos k2] at hk
    rw [behind_one hN (by omega) hsh]
    refine hk _ _ _ ?_ (by omega) (h.mark _)
    have := len_putsS (xs := t.map (· ++ [(⟨-1, a.Event⟩ : Mark)])) (l := [])
    simp at this; omega
  rw [if_neg k2]
  simp only [if_neg k2] at hk
  by_cases k3 : (a.Kind == 3) = true
  · rw [if_pos k3]
    simp only [if_pos k3] at hk
    rw [place_eq30 hN hP, behind_one hN (by omega) hsh]
    refine hk _ _ _ ?_ (by omega) (h.mark _)
    have := len_putsS (xs := t.map (· ++ [(⟨idxS P a.Name 0, a.Event⟩ : Mark)])) (l := [])
    simp at this; omega
  rw [if_neg k3]
  simp only [if_neg k3] at hk
  have k6 : ¬ (a.Kind == 6) = true := by
    simp only [beq_iff_eq]
    rcases hkd with ⟨_, y, _⟩ | ⟨y, _⟩ <;> omega
  rw [if_neg k6]
  simp only [if_neg k6] at hk
  by_cases k7 : (a.Kind == 7) = true
  · rw [if_pos k7]
    simp only [if_pos k7] at hk
    have k7' : a.Kind = 7 := by simpa using k7
    obtain ⟨hx, hn1, hn4, hth⟩ : a.X = [] ∧ 1 ≤ a.N ∧ a.N ≤ 4 ∧ BP d a.Then := by
      rcases hkd with ⟨_, y, _⟩ | ⟨_, y⟩
      · omega
      · exact y
    obtain ⟨d', rfl⟩ : ∃ d', d = d' + 1 := by
      cases d with
      | zero => exact hth.elim
      | succ d' => exact ⟨d', rfl⟩
    have hb := ih d' rfl
    obtain ⟨c, hc⟩ : ∃ c : Nat, a.N = (c : Int) := ⟨a.N.toNat, by omega⟩
    have hc16 : (if 16 < a.N then 16 else a.N).toNat = c := by rw [if_neg (by omega)]; omega
    rw [hc16] at hk
    rw [hc]
    have key : ∀ (n i : Nat) (t f : List MR) (many : Bool) (o2 : Option St2), i ≤ c → c - i < n → RS t f many o2 → (o2.bind (loopS (sp (flX N) P (d' + 1) a.Then) (c - i))) = (o.bind (loopS (sp (flX N) P (d' + 1) a.Then) c)) →
        r30_rows_act_l1 (Fam_r30_rows_block_at N e) N a.Kind a.Name a.Event a.X (c : Int) a.Then a.Else a.At V P Tm Nd (fun y65 y66 y67 => k y65 y66 y67) n (i : Int) t f many = some () := by
      intro n
      induction n with
      | zero => intro i t f many o2 h1 h2; omega
      | succ n ihn =>
        intro i t f many o2 h1 h2 hr heq
        show r30_rows_act_l1_b (Fam_r30_rows_block_at N e) N a.Kind a.Name a.Event a.X (c : Int) a.Then a.Else a.At V P Tm Nd (fun y65 y66 y67 => k y65 y66 y67) (r30_rows_act_l1 (Fam_r30_rows_block_at N e) N a.Kind a.Name a.Event a.X (c : Int) a.Then a.Else a.At V P Tm Nd (fun y65 y66 y67 => k y65 y66 y67) n) (i : Int) t f many = some ()
        unfold r30_rows_act_l1_b
        cases many with
        | true =>
          have ho : o2 = none := by
            cases o2 with
            | none => rfl
            | some p => obtain ⟨T, F⟩ := p; have := (hr.so T F rfl).1; cases this
          subst ho
          have : ifB (decide ((i : Int) < (c : Int))) true (some (!true)) (some false) = some false := by cases decide ((i : Int) < (c : Int)) <;> rfl
          rw [this, Option.bind_some, if_neg (by simp)]
          refine hk t f true (by have := hr.bd.1; omega) (by have := hr.bd.2; omega) ?_
          rw [← heq]
          exact hr.look
        | false =>
          by_cases hlt : i < c
          · have : ifB (decide ((i : Int) < (c : Int))) true (some (!false)) (some false) = some true := by rw [show decide ((i : Int) < (c : Int)) = true by simpa using hlt]; rfl
            rw [this, Option.bind_some, if_pos rfl]
            refine hb a.Then hth t f false o2 _ hr fun t' f' many' hr' => ?_
            rw [wr _ (by omega) (by omega), show ((i : Int) + 1) = ((i + 1 : Nat) : Int) by omega]
            refine ihn (i + 1) t' f' many' _ (by omega) (by omega) hr' ?_
            rw [← heq]
            obtain ⟨m, hm⟩ : ∃ m, c - i = m + 1 := ⟨c - i - 1, by omega⟩
            have hm' : c - (i + 1) = m := by omega
            rw [hm, hm']
            cases o2 <;> rfl
          · have : ifB (decide ((i : Int) < (c : Int))) true (some (!false)) (some false) = some false := by rw [show decide ((i : Int) < (c : Int)) = false by simpa using hlt]; rfl
            rw [this, Option.bind_some, if_neg (by simp)]
            have : c - i = 0 := by omega
            rw [this] at heq
            have e0 : o2.bind (loopS (sp (flX N) P (d' + 1) a.Then) 0) = o2 := by cases o2 <;> rfl
            rw [e0] at heq
            subst heq
            obtain ⟨q1, q2⟩ := hr.ok rfl
            obtain ⟨q3, _⟩ := small_iff.1 q1
            exact hk t f false (by omega) (by have := q2.1; omega) hr.look
    exact key N 0 t f false o (by omega) (by omega) h rfl
  rw [if_neg k7]
  simp only [if_neg k7] at hk
  refine hk t f false (by omega) (by omega) ?_
  have : (o.bind fun s => some s) = o := by cases o <;> rfl
  rw [this]
  exact h.look
end
section
variable {N : Nat} (hN : maxRow < N)
include hN
/-- Each with one mark behind. -/
theorem behind2_one {R : Type} {t : List MR} {m : Mark} (ht : t.length ≤ 9000) (hs : Sh t) {to0 : List MR} (hto : to0.length ≤ 70000) (hto2 : ∀ z ∈ to0, z.length ≤ 201) {k0 : List MR → Option R} : r30_behind_2 N to0 t [[m]] k0 = k0 (putsS to0 (t.map (· ++ [m]))) := by
  have hN' := hN
  simp only [maxRow] at hN'
  have l2 : ∀ (i : Nat) (y : MR) (to : List MR) (kp0 : List MR → Option R), t[i]? = some y → to.length ≤ 90000 → (∀ z ∈ to, z.length ≤ 201) → r30_behind_2_l2 N t [[m]] (i : Int) kp0 N to 0 = kp0 (putS to (y ++ [m])) := by
    intro i y to kp0 hy hto hto2
    obtain ⟨N', rfl⟩ : ∃ N', N = N' + 2 := ⟨N - 2, by omega⟩
    have hyl := hs y (get_mem hy)
    show r30_behind_2_l2_b (N' + 2) t [[m]] (i : Int) kp0 (r30_behind_2_l2 (N' + 2) t [[m]] (i : Int) kp0 (N' + 1)) to 0 = _
    unfold r30_behind_2_l2_b
    rw [if_pos (by simp), at_nat, hy, Option.bind_some, if_pos (by simp [maxRow]; omega)]
    rw [show at? [[m]] 0 = some [m] from rfl, Option.bind_some, if_pos (by simp [maxRow]; omega)]
    rw [put_eq30 hN (by omega) (by simp; omega) (fun z hz => by have := hto2 z hz; omega)]
    rw [wr _ (by omega) (by omega)]
    show r30_behind_2_l2_b (N' + 2) t [[m]] (i : Int) kp0 (r30_behind_2_l2 (N' + 2) t [[m]] (i : Int) kp0 N') (putS to (([] ++ y) ++ [m])) (0 + 1) = _
    unfold r30_behind_2_l2_b
    rw [if_neg (by simp), List.nil_append]
  have l0 : ∀ (n i : Nat) (to : List MR), i ≤ t.length → t.length - i < n → to.length + (t.length - i) ≤ 80000 → (∀ z ∈ to, z.length ≤ 201) →
      r30_behind_2_l0 N t [[m]] (fun (y14 : List (List Mark)) => k0 y14) n to (i : Int) = k0 (putsS to ((t.drop i).map (· ++ [m]))) := by
    intro n
    induction n with
    | zero => intro i to h1 h2; omega
    | succ n ih =>
      intro i to h1 h2 h3 h4
      show r30_behind_2_l0_b N t [[m]] (fun (y14 : List (List Mark)) => k0 y14) (r30_behind_2_l0 N t [[m]] (fun (y14 : List (List Mark)) => k0 y14) n) to (i : Int) = _
      unfold r30_behind_2_l0_b
      by_cases hlt : i < t.length
      · rw [if_pos (by simpa using hlt)]
        obtain ⟨y, hy, hd⟩ := drop_cons hlt
        rw [l2 i y to _ hy (by omega) h4]
        rw [wr _ (by omega) (by omega), show ((i : Int) + 1) = ((i + 1 : Nat) : Int) by omega]
        have := len_putS (x := y ++ [m]) (l := to)
        rw [ih (i + 1) _ (by omega) (by omega) (by omega) (fun z hz => by
          rcases mem_putS.1 hz with h | rfl
          · exact h4 z h
          · have := hs y (get_mem hy); simp; omega), hd]
        rfl
      · rw [if_neg (by simpa using hlt), List.drop_eq_nil_of_le (by omega)]
        rfl
  unfold r30_behind_2
  have := l0 N 0 to0 (by omega) (by omega) (by omega) hto2
  simpa using this
end
theorem rs0 : RS [[]] [] false (some initS) :=
  ⟨List.pairwise_singleton _ _, List.Pairwise.nil, fun T F e => by
    simp only [initS, Option.some.injEq, Prod.mk.injEq] at e
    obtain ⟨rfl, rfl⟩ := e
    exact ⟨rfl, fun x => Iff.rfl, fun x => Iff.rfl, by simp, by simp, by decide, by decide⟩, fun e => (by cases e), fun _ => ⟨by decide, by simp [Semi]⟩, fun e => (by cases e), by simp⟩
section
variable {N : Nat} (hN : maxRow < N) {V P Tm : List (List UInt8)} {Nd : List Node} (hP : P.length < maxRow)
include hN hP
theorem ract_ok {d e : Nat} {a : Act} (ha : aok (BP d) a) (ih : ∀ d', d = d' + 1 → RBlk N V P Tm Nd d' e) {t f : List MR} {o : Option St2} (h : RS t f false o) {k : List MR → List MR → Bool → Option Unit}
    (hk : ∀ t' f' many', t'.length ≤ 100000 → f'.length ≤ 100000 → RS t' f' (many' || !small t' || !small f') (o.bind (actS (flX N) P (sp (flX N) P d) a)) → k t' f' many' = some ()) :
    (Fam_r30_rows_block_at N (e + 1)).r30_rows_act Unit a.Kind a.Name a.Event a.X a.N a.Then a.Else a.At V P Tm Nd t f false k = some () := by
  have hN' := hN
  simp only [maxRow] at hN'
  rw [r30_rows_act_at]
  unfold r30_rows_act_d
  have hx := errs_spec (N := N) (by omega) ha.1
  have e1 : (ifB (a.Kind == 4) false ((ifB (decide (((a.X.length : Nat) : Int) > 0)) true ((at? a.X 0).bind fun e1 =>
  r30_errs N e1.Kind e1.N e1.Name e1.Kids e1.At (fun (r2 : Bool) => some r2)) (some false)).bind fun c3 => some c3) (some true)) = some (a.Kind == 4 || flX N a.X) := by
    rw [hx]
    cases a.Kind == 4 <;> rfl
  rw [e1, Option.bind_some]
  have hb := h.bd
  obtain ⟨ok1, ok2⟩ := h.ok rfl
  obtain ⟨t1, t2⟩ := small_iff.1 ok1
  by_cases hf : (a.Kind == 4 || flX N a.X) = true
  · rw [if_pos hf]
    rw [fail_eq30 hN (by omega) (by omega) (fun x hx => by have := t2 x hx; omega) (fun x hx => by have := ok2.2 x hx; omega)]
    refine ract_c3 hN hP ha ih h.fail fun t' f' many' g1 g2 g3 => hk t' f' many' g1 g2 ?_
    have : o.bind (actS (flX N) P (sp (flX N) P d) a) = (o.bind failS).bind (fun s => if (a.Kind == 2) = true then markS ⟨-1, a.Event⟩ s
  else if (a.Kind == 3) = true then markS ⟨idxS P a.Name 0, a.Event⟩ s
  else if (a.Kind == 6) = true then (sp (flX N) P d a.Then ([[]], [])).bind fun y => (sp (flX N) P d a.Else ([[]], [])).bind fun z => choiceS y z s
  else if (a.Kind == 7) = true then loopS (sp (flX N) P d a.Then) (if 16 < a.N then 16 else a.N).toNat s
  else some s) := by
      cases o with
      | none => rfl
      | some st => simp only [Option.bind_some, actS, if_pos hf]
    rw [this]
    exact g3
  · rw [if_neg hf]
    refine ract_c3 hN hP ha ih h fun t' f' many' g1 g2 g3 => hk t' f' many' g1 g2 ?_
    have : o.bind (actS (flX N) P (sp (flX N) P d) a) = o.bind (fun s => if (a.Kind == 2) = true then markS ⟨-1, a.Event⟩ s
  else if (a.Kind == 3) = true then markS ⟨idxS P a.Name 0, a.Event⟩ s
  else if (a.Kind == 6) = true then (sp (flX N) P d a.Then ([[]], [])).bind fun y => (sp (flX N) P d a.Else ([[]], [])).bind fun z => choiceS y z s
  else if (a.Kind == 7) = true then loopS (sp (flX N) P d a.Then) (if 16 < a.N then 16 else a.N).toNat s
  else some s) := by
      cases o with
      | none => rfl
      | some st => simp only [Option.bind_some, actS, if_neg hf]
    rw [this]
    exact g3

theorem r30_rows_block_l0_ok {d e : Nat} (ih : ∀ d', d = d' + 1 → RBlk N V P Tm Nd d' e) {l : List Act} (hl : BOK d l) {o6 : List MR} {o : Option St2} {k : List MR → List MR → Bool → Option Unit}
    (hk : ∀ t' f' many', RS t' f' many' (o.bind (sp (flX N) P (d + 1) l)) → (many' = false → small f' = true) → k t' f' many' = some ()) :
    ∀ (n i : Nat) (t f : List MR) (many : Bool) (o2 : Option St2), i ≤ l.length → l.length - i < n → RS t f many o2 → (many = false → small f = true) → o2.bind (actsS (actS (flX N) P (sp (flX N) P d)) (l.drop i)) = o.bind (sp (flX N) P (d + 1) l) →
    r30_rows_block_l0 (Fam_r30_rows_block_at N (e + 1)) N l o6 V P Tm Nd (fun y17 y18 y19 => k y17 y18 y19) n (i : Int) t f many = some ()
  | 0, _, _, _, _, _, _, h, _, _, _ => by omega
  | n + 1, i, t, f, many, o2, h1, h2, hr, hq, heq => by
    show r30_rows_block_l0_b (Fam_r30_rows_block_at N (e + 1)) N l o6 V P Tm Nd (fun y17 y18 y19 => k y17 y18 y19) (r30_rows_block_l0 (Fam_r30_rows_block_at N (e + 1)) N l o6 V P Tm Nd (fun y17 y18 y19 => k y17 y18 y19) n) (i : Int) t f many = some ()
    unfold r30_rows_block_l0_b
    obtain ⟨hl1, hl2⟩ := BOK_iff.1 hl
    cases many with
    | true =>
      have ho : o2 = none := by
        cases o2 with
        | none => rfl
        | some p => obtain ⟨T, F⟩ := p; have := (hr.so T F rfl).1; cases this
      subst ho
      have : ifB (decide ((i : Int) < ((l.length : Nat) : Int))) true (some (!true)) (some false) = some false := by cases decide ((i : Int) < ((l.length : Nat) : Int)) <;> rfl
      rw [this, Option.bind_some, if_neg (by simp)]
      refine hk t f true ?_ (fun e => by cases e)
      rw [← heq]
      exact hr
    | false =>
      by_cases hlt : i < l.length
      · have : ifB (decide ((i : Int) < ((l.length : Nat) : Int))) true (some (!false)) (some false) = some true := by rw [show decide ((i : Int) < ((l.length : Nat) : Int)) = true by simpa using hlt]; rfl
        rw [this, Option.bind_some, if_pos rfl]
        obtain ⟨a, ha, hd⟩ := drop_cons hlt
        rw [at_nat, ha, Option.bind_some]
        refine ract_ok hN hP (hl2 a (get_mem ha)) ih hr fun t' f' many' g1 g2 g3 => ?_
        rw [look_eq hN g1 g2]
        rw [wr _ (by omega) (by omega), show ((i : Int) + 1) = ((i + 1 : Nat) : Int) by omega]
        refine r30_rows_block_l0_ok ih hl hk n (i + 1) t' f' _ _ (by omega) (by omega) g3 (fun e => by simp only [Bool.or_eq_false_iff, Bool.not_eq_false'] at e; exact e.2) ?_
        rw [← heq, hd]
        cases o2 <;> rfl
      · have : ifB (decide ((i : Int) < ((l.length : Nat) : Int))) true (some (!false)) (some false) = some false := by rw [show decide ((i : Int) < ((l.length : Nat) : Int)) = false by simpa using hlt]; rfl
        rw [this, Option.bind_some, if_neg (by simp)]
        refine hk t f false ?_ hq
        rw [← heq, List.drop_eq_nil_of_le (by omega)]
        have : o2.bind (actsS (actS (flX N) P (sp (flX N) P d)) []) = o2 := by cases o2 <;> rfl
        rw [this]
        exact hr

theorem r30_rows_block_2_l0_ok {d e : Nat} (ih : ∀ d', d = d' + 1 → RBlk N V P Tm Nd d' e) {l : List Act} (hl : BOK d l) {o : Option St2} {k : List MR → List MR → Bool → Option Unit}
    (hk : ∀ t' f' many', RS t' f' many' (o.bind (sp (flX N) P (d + 1) l)) → k t' f' many' = some ()) :
    ∀ (n i : Nat) (t f : List MR) (many : Bool) (o2 : Option St2), i ≤ l.length → l.length - i < n → RS t f many o2 → o2.bind (actsS (actS (flX N) P (sp (flX N) P d)) (l.drop i)) = o.bind (sp (flX N) P (d + 1) l) →
    r30_rows_block_2_l0 (Fam_r30_rows_block_at N (e + 1)) N l V P Tm Nd (fun y17 y18 y19 => k y17 y18 y19) n (i : Int) t f many = some ()
  | 0, _, _, _, _, _, _, h, _, _ => by omega
  | n + 1, i, t, f, many, o2, h1, h2, hr, heq => by
    show r30_rows_block_2_l0_b (Fam_r30_rows_block_at N (e + 1)) N l V P Tm Nd (fun y17 y18 y19 => k y17 y18 y19) (r30_rows_block_2_l0 (Fam_r30_rows_block_at N (e + 1)) N l V P Tm Nd (fun y17 y18 y19 => k y17 y18 y19) n) (i : Int) t f many = some ()
    unfold r30_rows_block_2_l0_b
    obtain ⟨hl1, hl2⟩ := BOK_iff.1 hl
    cases many with
    | true =>
      have ho : o2 = none := by
        cases o2 with
        | none => rfl
        | some p => obtain ⟨T, F⟩ := p; have := (hr.so T F rfl).1; cases this
      subst ho
      have : ifB (decide ((i : Int) < ((l.length : Nat) : Int))) true (some (!true)) (some false) = some false := by cases decide ((i : Int) < ((l.length : Nat) : Int)) <;> rfl
      rw [this, Option.bind_some, if_neg (by simp)]
      refine hk t f true ?_
      rw [← heq]
      exact hr
    | false =>
      by_cases hlt : i < l.length
      · have : ifB (decide ((i : Int) < ((l.length : Nat) : Int))) true (some (!false)) (some false) = some true := by rw [show decide ((i : Int) < ((l.length : Nat) : Int)) = true by simpa using hlt]; rfl
        rw [this, Option.bind_some, if_pos rfl]
        obtain ⟨a, ha, hd⟩ := drop_cons hlt
        rw [at_nat, ha, Option.bind_some]
        refine ract_ok hN hP (hl2 a (get_mem ha)) ih hr fun t' f' many' g1 g2 g3 => ?_
        rw [look_eq hN g1 g2]
        rw [wr _ (by omega) (by omega), show ((i : Int) + 1) = ((i + 1 : Nat) : Int) by omega]
        refine r30_rows_block_2_l0_ok ih hl hk n (i + 1) t' f' _ _ (by omega) (by omega) g3 ?_
        rw [← heq, hd]
        cases o2 <;> rfl
      · have : ifB (decide ((i : Int) < ((l.length : Nat) : Int))) true (some (!false)) (some false) = some false := by rw [show decide ((i : Int) < ((l.length : Nat) : Int)) = false by simpa using hlt]; rfl
        rw [this, Option.bind_some, if_neg (by simp)]
        refine hk t f false ?_
        rw [← heq, List.drop_eq_nil_of_le (by omega)]
        have : o2.bind (actsS (actS (flX N) P (sp (flX N) P d)) []) = o2 := by cases o2 <;> rfl
        rw [this]
        exact hr

theorem rblk : ∀ (d e : Nat), 2 * d + 2 ≤ e → RBlk N V P Tm Nd d e := by
  intro d
  induction d with
  | zero =>
    intro e he l hl t f many o k hr hk
    obtain ⟨e, rfl⟩ : ∃ q, e = q + 2 := ⟨e - 2, by omega⟩
    rw [r30_rows_block_2_at]
    unfold r30_rows_block_2_d
    exact r30_rows_block_2_l0_ok hN hP (fun d' hd => by omega) hl hk N 0 t f many o (by omega) (by have := (BOK_iff.1 hl).1; simp only [maxRow] at hN; omega) hr rfl
  | succ d ih =>
    intro e he l hl t f many o k hr hk
    obtain ⟨e, rfl⟩ : ∃ q, e = q + 2 := ⟨e - 2, by omega⟩
    rw [r30_rows_block_2_at]
    unfold r30_rows_block_2_d
    exact r30_rows_block_2_l0_ok hN hP (fun d' hd => by cases hd; exact ih e (by omega)) hl hk N 0 t f many o (by omega) (by have := (BOK_iff.1 hl).1; simp only [maxRow] at hN; omega) hr rfl
theorem rblock_top {d : Nat} (hd : d ≤ 100) {l : List Act} (hl : BOK d l) {k : List MR → List MR → Bool → Option Unit} (hk : ∀ t' f' many', RS t' f' many' (sp (flX N) P (d + 1) l initS) → (many' = false → small f' = true) → k t' f' many' = some ()) :
    r30_rows_block N l V P Tm Nd false [[]] k = some () := by
  have hN' := hN
  simp only [maxRow] at hN'
  unfold r30_rows_block
  obtain ⟨e, he⟩ : ∃ e, N = e + 2 := ⟨N - 2, by omega⟩
  have : (Fam_r30_rows_block_at N N).r30_rows_block Unit l V P Tm Nd false [[]] k = r30_rows_block_d (Fam_r30_rows_block_at N (e + 1)) N l V P Tm Nd false [[]] k := by
    have h1 : ∀ q, (Fam_r30_rows_block_at N (q + 1)).r30_rows_block Unit l V P Tm Nd false [[]] k = r30_rows_block_d (Fam_r30_rows_block_at N q) N l V P Tm Nd false [[]] k := fun q => r30_rows_block_at ..
    have := h1 (e + 1)
    rwa [show e + 1 + 1 = N by omega] at this
  rw [this]
  unfold r30_rows_block_d
  exact r30_rows_block_l0_ok hN hP (fun d' hd' => rblk hN hP d' e (by omega)) hl (o := some initS) hk N 0 [[]] [] false (some initS) (by omega) (by have := (BOK_iff.1 hl).1; omega) rs0 (fun _ => by decide) rfl
end
section
variable {N : Nat} (hN : maxRow < N)
include hN
theorem rways_l2 {all t : List MR} {many : Bool} {i : Nat} {z : MR} (hz : all[i]? = some z) (hl : z.length ≤ 200) {kp0 : List MR → Option Unit} :
    ∀ (n j : Nat) (f : List MR), j ≤ z.length + 1 → z.length + 1 - j < n → SS f → f.length + (z.length + 1 - j) ≤ 90000 → Sh f →
    (∀ f', SS f' → (∀ y, y ∈ f' ↔ y ∈ f ∨ ∃ q, j ≤ q ∧ q ≤ z.length ∧ y = z.take q) → f'.length ≤ f.length + (z.length + 1 - j) → Sh f' → kp0 f' = some ()) →
    r30_Ways_l2 N (i : Int) t many all kp0 n (j : Int) f = some ()
  | 0, _, _, _, h, _, _, _, _ => by omega
  | n + 1, j, f, h1, h2, h3, h4, h5, hk => by
    show r30_Ways_l2_b N (i : Int) t many all kp0 (r30_Ways_l2 N (i : Int) t many all kp0 n) (j : Int) f = some ()
    unfold r30_Ways_l2_b
    have hil := get_lt hz
    rw [if_pos ⟨by omega, by omega⟩, Int.toNat_natCast, hz]
    simp only []
    by_cases hlt : j ≤ z.length
    · rw [if_pos (by simpa using hlt), if_pos ⟨by omega, by omega⟩]
      rw [if_pos ⟨by omega, by omega, by omega⟩, Int.toNat_natCast]
      have e : ([] : List Mark) ++ (z.take j).drop (Int.toNat 0) = z.take j := by simp
      rw [if_pos (by simp [maxRow]; omega), e]
      rw [put_eq30 hN (by omega) (by simp; omega) (fun y hy => by have := h5 y hy; omega)]
      rw [wr _ (by omega) (by omega), show ((j : Int) + 1) = ((j + 1 : Nat) : Int) by omega]
      have hlen := len_putS (x := z.take j) (l := f)
      refine rways_l2 hz hl n (j + 1) (putS f (z.take j)) (by omega) (by omega) (SS_putS h3) (by omega) (fun y hy => by
        rcases mem_putS.1 hy with hy | rfl
        · exact h5 y hy
        · simp; omega) fun f' g1 g2 g3 g4 => hk f' g1 (fun y => ?_) (by omega) g4
      rw [g2, mem_putS]
      constructor
      · rintro ((h | rfl) | ⟨q, q1, q2, rfl⟩)
        · exact .inl h
        · exact .inr ⟨j, Nat.le_refl _, hlt, rfl⟩
        · exact .inr ⟨q, by omega, q2, rfl⟩
      · rintro (h | ⟨q, q1, q2, rfl⟩)
        · exact .inl (.inl h)
        · rcases Nat.eq_or_lt_of_le q1 with rfl | q1
          · exact .inl (.inr rfl)
          · exact .inr ⟨q, q1, q2, rfl⟩
    · rw [if_neg (by simpa using hlt)]
      refine hk f h3 (fun y => ⟨.inl, ?_⟩) (by omega) h5
      rintro (h | ⟨q, q1, q2, rfl⟩)
      · exact h
      · omega
theorem rways_l0 {all t : List MR} {many : Bool} (hl : ∀ z ∈ all, z.length ≤ 64) (ha : all.length ≤ 1000) {kp0 : List MR → Option Unit} :
    ∀ (n i : Nat) (f : List MR), i ≤ all.length → all.length - i < n → SS f → f.length + (all.length - i) * 65 ≤ 80000 → Sh f →
    (∀ f', SS f' → (∀ y, y ∈ f' ↔ y ∈ f ∨ ∃ z ∈ all.drop i, y <+: z) → f'.length ≤ f.length + (all.length - i) * 65 → Sh f' → kp0 f' = some ()) →
    r30_Ways_l0 N t many all kp0 n (i : Int) f = some ()
  | 0, _, _, _, h, _, _, _, _ => by omega
  | n + 1, i, f, h1, h2, h3, h4, h5, hk => by
    show r30_Ways_l0_b N t many all kp0 (r30_Ways_l0 N t many all kp0 n) (i : Int) f = some ()
    have hN' := hN
    simp only [maxRow] at hN'
    unfold r30_Ways_l0_b
    by_cases hlt : i < all.length
    · rw [if_pos (by simpa using hlt)]
      obtain ⟨z, hz, hd⟩ := drop_cons hlt
      have hzl := hl z (get_mem hz)
      obtain ⟨m, hm⟩ : ∃ m, all.length - i = m + 1 := ⟨all.length - i - 1, by omega⟩
      have hm' : all.length - (i + 1) = m := by omega
      rw [hm, Nat.succ_mul] at h4
      refine rways_l2 hN hz (by omega) N 0 f (by omega) (by omega) h3 (by omega) h5 fun f' g1 g2 g3 g4 => ?_
      rw [wr _ (by omega) (by omega), show ((i : Int) + 1) = ((i + 1 : Nat) : Int) by omega]
      refine rways_l0 hl ha n (i + 1) f' (by omega) (by omega) g1 (by rw [hm']; omega) g4 fun f2 k1 k2 k3 k4 => hk f2 k1 (fun y => ?_) (by rw [hm, Nat.succ_mul]; rw [hm'] at k3; omega) k4
      rw [k2, g2, hd]
      constructor
      · rintro ((h | ⟨q, _, q2, rfl⟩) | ⟨w, hw, hy⟩)
        · exact .inl h
        · exact .inr ⟨z, by simp, List.take_prefix _ _⟩
        · exact .inr ⟨w, List.mem_cons_of_mem _ hw, hy⟩
      · rintro (h | ⟨w, hw, hy⟩)
        · exact .inl (.inl h)
        · rcases List.mem_cons.1 hw with rfl | hw
          · exact .inl (.inr ⟨y.length, by omega, hy.length_le, List.prefix_iff_eq_take.1 hy⟩)
          · exact .inr ⟨w, hw, hy⟩
    · rw [if_neg (by simpa using hlt)]
      refine hk f h3 (fun y => ?_) (by omega) h5
      rw [List.drop_eq_nil_of_le (by omega)]
      simp
theorem rways_l4 {t f : List MR} {many : Bool} (ht : t.length ≤ 1000) (hs : Sh t) {kp0 : List MR → Option Unit} : ∀ (n i : Nat) (out : List MR), i ≤ t.length → t.length - i < n → out.length + (t.length - i) ≤ 80000 → Sh out →
    r30_Ways_l4 N t f many kp0 n out (i : Int) = kp0 (putsS out (t.drop i))
  | 0, _, _, _, h, _, _ => by omega
  | n + 1, i, out, h1, h2, h3, h4 => by
    show r30_Ways_l4_b N t f many kp0 (r30_Ways_l4 N t f many kp0 n) out (i : Int) = _
    unfold r30_Ways_l4_b
    by_cases hlt : i < t.length
    · rw [if_pos (by simpa using hlt)]
      obtain ⟨y, hy, hd⟩ := drop_cons hlt
      have hyl := hs y (get_mem hy)
      rw [at_nat, hy, Option.bind_some, put_eq30 hN (by omega) (by omega) (fun z hz => by have := h4 z hz; omega)]
      rw [wr _ (by omega) (by omega), show ((i : Int) + 1) = ((i + 1 : Nat) : Int) by omega]
      have := len_putS (x := y) (l := out)
      rw [rways_l4 ht hs n (i + 1) _ (by omega) (by omega) (by omega) (fun z hz => by
        rcases mem_putS.1 hz with h | rfl
        · exact h4 z h
        · exact hyl), hd]
      rfl
    · rw [if_neg (by simpa using hlt), List.drop_eq_nil_of_le (by omega)]
      rfl
theorem rways_c13 {t f : List MR} {T F : List MR} (st : SS t) (s1 : small t = true) (f1 : f.length ≤ 9000) (f2 : ∀ x ∈ f, x.length ≤ 64) {kp0 : Int → Option Unit} {kp1 : List MR → Int → Option Unit}
    (hk : ∀ L, SS L → (∀ x, x ∈ L ↔ x ∈ t ∨ ∃ y ∈ f, x = y ++ [errM]) → kp1 L 0 = some ()) : r30_Ways_c13 N t f false kp0 kp1 = some () := by
  have hN' := hN
  simp only [maxRow] at hN'
  obtain ⟨t1, t2⟩ := small_iff.1 s1
  have sh : Sh t := fun x hx => by have := t2 x hx; omega
  unfold r30_Ways_c13
  rw [if_neg (by simp)]
  rw [show (0 : Int) = ((0 : Nat) : Int) from rfl, rways_l4 hN (by omega) sh N 0 [] (by omega) (by omega) (by simp; omega) (fun x hx => by simp at hx), List.drop_zero]
  have hl := len_putsS (xs := t) (l := [])
  simp at hl
  refine (behind2_one hN (m := errM) f1 (fun x hx => by have := f2 x hx; omega) (by omega) (fun x hx => by
    rcases mem_putsS.1 hx with h | h
    · simp at h
    · have := t2 x h; omega)).trans ?_
  refine hk _ (SS_putsS (SS_putsS List.Pairwise.nil)) fun x => ?_
  rw [mem_putsS, mem_putsS, List.mem_map]
  constructor
  · rintro ((h | h) | ⟨y, hy, rfl⟩)
    · simp at h
    · exact .inl h
    · exact .inr ⟨y, hy, rfl⟩
  · rintro (h | ⟨y, hy, rfl⟩)
    · exact .inl (.inr h)
    · exact .inr ⟨y, hy, rfl⟩
end
section
variable {N : Nat} (hN : maxRow < N) {V P Tm : List (List UInt8)} {Nd : List Node} (hP : P.length < maxRow)
include hN hP
theorem rways {d : Nat} (hd : d ≤ 100) {l : List Act} (hl : BOK d l) {fuel : Int} {c : Bool}
    (hM : r16_Block N l V P Tm Nd (fun (r4 : List Ins) => r16_Most N r4 (fun (r5 : Int) => some (decide (r5 > fuel)))) = some c) {k0 : List MR → Int → Option Unit}
    (h0 : (sp (flX N) P (d + 1) l initS).bind (if c = true then cutS else some) = none → k0 [] 15 = some ())
    (h1 : ∀ T F L, (sp (flX N) P (d + 1) l initS).bind (if c = true then cutS else some) = some (T, F) → SS L → (∀ x, x ∈ L ↔ x ∈ T ∨ ∃ y ∈ F, x = y ++ [errM]) → k0 L 0 = some ()) :
    r30_Ways N l V P Tm Nd fuel k0 = some () := by
  have hN' := hN
  simp only [maxRow] at hN'
  unfold r30_Ways
  refine rblock_top hN hP hd hl fun t f many hr hq => ?_
  rw [hM]
  cases many with
  | true =>
    have ho : sp (flX N) P (d + 1) l initS = none := by
      cases ho : sp (flX N) P (d + 1) l initS with
      | none => rfl
      | some p => obtain ⟨T, F⟩ := p; have := (hr.so T F ho).1; cases this
    rw [show ifB (!true) true (some c) (some false) = some false from rfl, Option.bind_some, if_neg (by simp)]
    unfold r30_Ways_c13
    rw [if_pos rfl]
    exact h0 (by rw [ho]; rfl)
  | false =>
    have hsf := hq rfl
    obtain ⟨T, F, ho⟩ : ∃ T F, sp (flX N) P (d + 1) l initS = some (T, F) := by
      cases ho : sp (flX N) P (d + 1) l initS with
      | none => rcases hr.no ho with h | h
                · cases h
                · rw [hsf] at h; cases h
      | some p => obtain ⟨T, F⟩ := p; exact ⟨T, F, rfl⟩
    obtain ⟨_, a1, a2, a3, a4, s1, s2⟩ := hr.so T F ho
    obtain ⟨t1, t2⟩ := small_iff.1 s1
    obtain ⟨f1, f2⟩ := small_iff.1 s2
    rw [show ifB (!false) true (some c) (some false) = some c from rfl, Option.bind_some]
    rw [ho] at h0 h1
    cases c with
    | false =>
      rw [if_neg (by simp)]
      refine rways_c13 hN (T := T) (F := F) hr.st s1 (by omega) f2 fun L g1 g2 => ?_
      refine h1 T F L (by simp) g1 fun x => ?_
      rw [g2, a1 x]
      constructor
      · rintro (h | ⟨y, hy, rfl⟩)
        · exact .inl h
        · exact .inr ⟨y, (a2 y).1 hy, rfl⟩
      · rintro (h | ⟨y, hy, rfl⟩)
        · exact .inl h
        · exact .inr ⟨y, (a2 y).2 hy, rfl⟩
    | true =>
      rw [if_pos rfl] at h0 h1 ⊢
      rw [if_pos (by simp [maxRow]; omega), if_pos (by simp [maxRow]; omega), List.nil_append]
      refine rways_l0 hN (t := t) (fun z hz => by
        rcases List.mem_append.1 hz with h | h
        · exact t2 z h
        · exact f2 z h) (by simp; omega) N 0 f (by omega) (by simp; omega) hr.sf (by simp; omega) (fun x hx => by have := f2 x hx; omega) fun f' g1 g2 g3 g4 => ?_
      simp only [List.length_append, Nat.sub_zero] at g3
      rw [look_eq hN (by omega) (by omega)]
      have al : Alike f' (un F ((T ++ F).flatMap pfx)) := fun y => by
        rw [g2, mem_un, a2 y, List.mem_flatMap, List.drop_zero]
        constructor
        · rintro (h | ⟨z, hz, hy⟩)
          · exact .inl h
          · refine .inr ⟨z, ?_, mem_pfx.2 hy⟩
            rcases List.mem_append.1 hz with h | h
            · exact List.mem_append_left _ ((a1 z).1 h)
            · exact List.mem_append_right _ ((a2 z).1 h)
        · rintro (h | ⟨z, hz, hy⟩)
          · exact .inl h
          · refine .inr ⟨z, ?_, mem_pfx.1 hy⟩
            rcases List.mem_append.1 hz with h | h
            · exact List.mem_append_left _ ((a1 z).2 h)
            · exact List.mem_append_right _ ((a2 z).2 h)
      have hn : (un F ((T ++ F).flatMap pfx)).Nodup := nodup_un a4
      have hsm := al.small (SS_nodup g1) hn
      rw [s1, hsm]
      simp only [Option.bind_some, cutS] at h0 h1
      have hf' : ∀ x ∈ f', x.length ≤ 64 := fun x hx => by
        rcases (g2 x).1 hx with h | ⟨z, hz, hy⟩
        · exact f2 x h
        · rw [List.drop_zero] at hz
          have h3 := hy.length_le
          rcases List.mem_append.1 hz with h | h
          · have := t2 z h; omega
          · have := f2 z h; omega
      cases hqq : small (un F ((T ++ F).flatMap pfx)) with
      | true =>
        rw [if_pos hqq] at h1
        rw [show (false || !true || !true) = false from rfl]
        refine rways_c13 hN (T := T) (F := F) hr.st s1 (by omega) hf' fun L k1 k2 => ?_
        refine h1 T _ L rfl k1 fun x => ?_
        rw [k2, a1 x]
        constructor
        · rintro (h | ⟨y, hy, rfl⟩)
          · exact .inl h
          · exact .inr ⟨y, (al y).1 hy, rfl⟩
        · rintro (h | ⟨y, hy, rfl⟩)
          · exact .inl h
          · exact .inr ⟨y, (al y).2 hy, rfl⟩
      | false =>
        rw [if_neg (show ¬ (small (un F ((T ++ F).flatMap pfx)) = true) by rw [hqq]; simp)] at h0
        rw [show (false || !true || !false) = true from rfl]
        unfold r30_Ways_c13
        rw [if_pos rfl]
        exact h0 rfl
end
end Ef
