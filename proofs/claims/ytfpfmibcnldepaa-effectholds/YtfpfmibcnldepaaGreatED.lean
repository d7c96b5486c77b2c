/- Expressions by numbers: what they are; whether they may err, both ways. -/
import Derived.Test.YtfpfmibcnldepaaGreatE3
import Derived.Test.YtfpfmibcnldepaaGreatEQ
set_option maxRecDepth 100000
set_option linter.unusedVariables false
set_option linter.unusedSimpArgs false
namespace Ef
open Go TE Go.Proofs
def Ok {R : Type} (P : R → Prop) (x : Option R) : Prop := ∃ r, x = some r ∧ P r
theorem eta (x : Expr) : (⟨x.Kind, x.N, x.Name, x.Kids, x.At⟩ : Expr) = x := by cases x; rfl
/-- The expressions that are made. -/
inductive Tr : Type
  | leaf (k n : Int) (s : List UInt8)
  | one (k : Int) (a : Tr)
  | two (k : Int) (a b : Tr)
def Tr.e : Tr → Expr
  | .leaf k n s => ⟨k, n, s, [], 0⟩
  | .one k a => ⟨k, 0, [], [a.e], 0⟩
  | .two k a b => ⟨k, 0, [], [a.e, b.e], 0⟩
def Tr.ok : Tr → Prop
  | .leaf k _ _ => k = 1 ∨ k = 2 ∨ k = 3
  | .one k a => (k = 5 ∨ k = 6) ∧ a.ok
  | .two k a b => (7 ≤ k ∧ k ≤ 19) ∧ a.ok ∧ b.ok
def Tr.dep : Tr → Nat
  | .leaf _ _ _ => 0
  | .one _ a => a.dep + 1
  | .two _ a b => max a.dep b.dep + 1
def Tr.bad : Tr → Bool
  | .leaf _ _ _ => false
  | .one k a => k == 5 || a.bad
  | .two k a b => decide (k ≤ 11) || (a.bad || b.bad)
def Tr.len : Tr → Nat
  | .leaf _ _ _ => 1
  | .one _ a => a.len + 1
  | .two k a b => a.len + b.len + (if k = 18 then 5 else if k = 19 then 7 else 1)
theorem Tr.len_le : ∀ t : Tr, t.len ≤ 8 ^ (t.dep + 1)
  | .leaf _ _ _ => by simp [Tr.len, Tr.dep]
  | .one _ a => by
    have := a.len_le
    have h1 : 1 ≤ 8 ^ (a.dep + 1) := Nat.one_le_pow _ _ (by omega)
    simp only [Tr.len, Tr.dep]
    rw [Nat.pow_succ 8 (a.dep + 1)]; omega
  | .two k a b => by
    have h1 := a.len_le
    have h2 := b.len_le
    have ha : 8 ^ (a.dep + 1) ≤ 8 ^ (max a.dep b.dep + 1) := Nat.pow_le_pow_right (by omega) (by omega)
    have hb : 8 ^ (b.dep + 1) ≤ 8 ^ (max a.dep b.dep + 1) := Nat.pow_le_pow_right (by omega) (by omega)
    have h3 : 8 ≤ 8 ^ (max a.dep b.dep + 1) := Nat.le_self_pow (by omega) 8
    simp only [Tr.len, Tr.dep]
    rw [Nat.pow_succ 8 (max a.dep b.dep + 1)]
    split
    · omega
    · split <;> omega
theorem ifB_ft (x y : Option Bool) : ifB false true x y = y := rfl
theorem ifB_tt (x y : Option Bool) : ifB true true x y = x := rfl
section
variable {R : Type} {P : R → Prop} {N : Nat}
theorem place_ok {v n : Int} (hn : 0 < n) (h2 : n ≤ 1000) (k : Int → Option R) : ∃ x, 0 ≤ x ∧ x < n ∧ r37_Place N v n k = k x := by
  have h1 := Int.tmod_lt_of_pos v hn
  have h3 : -n < Int.tmod v n := Int.lt_tmod_of_pos v hn
  unfold r37_Place
  rw [if_neg (by omega)]
  by_cases h : Int.tmod v n < 0
  · exact ⟨Int.tmod v n + n, by omega, by omega, by rw [if_pos (by simpa using h), wr _ (by omega) (by omega)]⟩
  · exact ⟨Int.tmod v n, by omega, by omega, by rw [if_neg (by simpa using h)]⟩
theorem next_ok {n : Int} (hn : 0 < n) (h2 : n ≤ 1000) {L : List Int} {At : Int} (h0 : 0 ≤ At) (h1 : At ≤ L.length) (hL : L.length ≤ 1000) (k : Int → Int → Option R) (hk : ∀ x At' : Int, 0 ≤ x → x < n → 0 ≤ At' → At' ≤ (L.length : Int) → Ok P (k x At')) : Ok P (r37_Row_Next N n L At k) := by
  unfold r37_Row_Next
  by_cases h : At ≥ (L.length : Int)
  · rw [if_pos (by simpa using h)]; exact hk 0 At (by omega) hn h0 h1
  · rw [if_neg (by simpa using h), wr (At + 1) (by omega) (by omega), wr _ (by omega) (by omega)]
    have : at? L (At + 1 - 1) = some (L[At.toNat]'(by omega)) := by
      unfold at?; rw [if_neg (by omega), show (At + 1 - 1).toNat = At.toNat by omega, List.getElem?_eq_getElem]
    rw [this, Option.bind_some]
    obtain ⟨x, x0, x1, hx⟩ := place_ok (N := N) (v := L[At.toNat]'(by omega)) hn h2 (fun (r2 : Int) => k r2 (At + 1))
    rw [hx]
    exact hk x (At + 1) x0 x1 (by omega) (by omega)
theorem pick_ok {l : List (List UInt8)} (hl : l ≠ []) (h2 : l.length ≤ 100) {L : List Int} {At : Int} (h0 : 0 ≤ At) (h1 : At ≤ L.length) (hL : L.length ≤ 1000) (k : List UInt8 → Int → Option R) (hk : ∀ (x : List UInt8) (At' : Int), x ∈ l → 0 ≤ At' → At' ≤ (L.length : Int) → Ok P (k x At')) : Ok P (r37_pick N l [] L At k) := by
  have hp : 0 < l.length := List.length_pos_iff.2 hl
  unfold r37_pick
  rw [if_neg (by simp; omega)]
  refine next_ok (by omega) (by omega) h0 h1 hL _ fun x At' x0 x1 a0 a1 => ?_
  have : at? l x = some (l[x.toNat]'(by omega)) := by unfold at?; rw [if_neg (by omega), List.getElem?_eq_getElem]
  rw [this]
  exact hk _ _ (List.getElem_mem _) a0 a1
theorem expr37 {V Po Ti : List (List UInt8)} (hV : V ≠ []) (hV2 : V.length ≤ 100) {L : List Int} (hL : L.length ≤ 1000) : ∀ (d m : Nat) (At : Int) (k : Int → Int → List UInt8 → List Expr → Int → Int → Option R), d < m → d ≤ 100 → 0 ≤ At → At ≤ L.length →
    (∀ (t : Tr) (At' : Int), t.ok → t.dep ≤ d → 0 ≤ At' → At' ≤ (L.length : Int) → Ok P (k t.e.Kind t.e.N t.e.Name t.e.Kids t.e.At At')) → Ok P ((Fam_r37_Expr_at N m).r37_Expr R V Po Ti [] d L At k) := by
  intro d
  induction d with
  | zero =>
    intro m At k hm hd h0 h1 hk
    obtain ⟨m, rfl⟩ : ∃ q, m = q + 1 := ⟨m - 1, by omega⟩
    show Ok P (r37_Expr_d (Fam_r37_Expr_at N m) N V Po Ti [] _ L At k)
    unfold r37_Expr_d
    refine next_ok (by omega) (by omega) h0 h1 hL _ fun x At' x0 x1 a0 a1 => ?_
    have c4 : ∀ (q : Int) kp1, 0 ≤ q → q < 6 → Ok P (r37_Expr_c4 (Fam_r37_Expr_at N m) N 0 q L At' V Po Ti [] 0 0 [] 0 (fun (y47 : Int) (y48 : Int) (y49 : Int) (y50 : List UInt8) (y51 : Int) => k y48 y49 y50 ([] : List Expr) y51 y47) kp1) := by
      intro q kp1 q0 q1
      unfold r37_Expr_c4
      by_cases h2 : q < 2
      · rw [if_pos (by simpa using h2)]
        refine next_ok (by omega) (by omega) a0 a1 hL _ fun x At'' x0 x1 b0 b1 => ?_
        have : ∃ n, at? [(0 : Int), 1, 2, 7, 1099511627776, 9223372036854775807] x = some n := by
          unfold at?; rw [if_neg (by omega)]
          exact ⟨_, List.getElem?_eq_getElem (by simp; omega)⟩
        obtain ⟨n, hn⟩ := this
        rw [hn]
        exact hk (.leaf 1 n []) _ (.inl rfl) (by simp [Tr.dep]) b0 b1
      · rw [if_neg (by simpa using h2)]
        by_cases h3 : q = 2
        · subst h3
          have : decide (((V.length : Nat) : Int) > 0) = true := by
            have := List.length_pos_iff.2 hV; simpa using this
          simp only [this, BEq.rfl, ifB_tt, if_true, Option.bind_some]
          exact pick_ok hV hV2 a0 a1 hL _ fun s At'' _ b0 b1 => hk (.leaf 2 0 s) _ (.inr (.inl rfl)) (by simp [Tr.dep]) b0 b1
        · have e2 : (q == 2) = false := by simpa using h3
          simp only [e2, ifB_ft, List.length_nil]
          rw [Option.bind_some, if_neg (by simp)]
          have e3 : ifB (q == 3) true (some (decide ((((0 : Nat) : Int)) > 0))) (some false) = some false := by
            unfold ifB; split <;> simp
          rw [e3, Option.bind_some, if_neg (by simp), if_pos (by simp; omega)]
          exact hk (.leaf 3 0 []) _ (.inr (.inr rfl)) (by simp [Tr.dep]) a0 a1
    simp only [show ((((0 : Nat) : Int)) == 0) = true from rfl, ifB_tt, Option.bind_some]
    by_cases hx : x > 5
    · rw [if_pos (by simpa using hx)]
      exact c4 _ _ (Int.tmod_nonneg _ x0) (Int.tmod_lt_of_pos _ (by omega))
    · rw [if_neg (by simpa using hx)]
      exact c4 _ _ x0 (by omega)
  | succ d ih =>
    intro m At k hm hd h0 h1 hk
    obtain ⟨m, rfl⟩ : ∃ q, m = q + 1 := ⟨m - 1, by omega⟩
    show Ok P (r37_Expr_d (Fam_r37_Expr_at N m) N V Po Ti [] _ L At k)
    unfold r37_Expr_d
    refine next_ok (by omega) (by omega) h0 h1 hL _ fun q At' q0 q1 a0 a1 => ?_
    have e0 : (((d + 1 : Nat) : Int) == 0) = false := by simp; omega
    simp only [e0, ifB_ft]
    rw [Option.bind_some, if_neg (by simp)]
    unfold r37_Expr_c4
    by_cases h2 : q < 2
    · rw [if_pos (by simpa using h2)]
      refine next_ok (by omega) (by omega) a0 a1 hL _ fun x At'' x0 x1 b0 b1 => ?_
      have : ∃ n, at? [(0 : Int), 1, 2, 7, 1099511627776, 9223372036854775807] x = some n := by
        unfold at?; rw [if_neg (by omega)]
        exact ⟨_, List.getElem?_eq_getElem (by simp; omega)⟩
      obtain ⟨n, hn⟩ := this
      rw [hn]
      exact hk (.leaf 1 n []) _ (.inl rfl) (by simp [Tr.dep]) b0 b1
    · rw [if_neg (by simpa using h2)]
      by_cases h3 : q = 2
      · subst h3
        have : decide (((V.length : Nat) : Int) > 0) = true := by
          have := List.length_pos_iff.2 hV; simpa using this
        simp only [this, BEq.rfl, ifB_tt, if_true, Option.bind_some]
        exact pick_ok hV hV2 a0 a1 hL _ fun s At'' _ b0 b1 => hk (.leaf 2 0 s) _ (.inr (.inl rfl)) (by simp [Tr.dep]) b0 b1
      · have e2 : (q == 2) = false := by simpa using h3
        simp only [e2, ifB_ft, List.length_nil]
        rw [Option.bind_some, if_neg (by simp)]
        have e3 : ifB (q == 3) true (some (decide ((((0 : Nat) : Int)) > 0))) (some false) = some false := by
          unfold ifB; split <;> simp
        rw [e3, Option.bind_some, if_neg (by simp)]
        by_cases h6 : q < 6
        · rw [if_pos (by simpa using h6)]
          exact hk (.leaf 3 0 []) _ (.inr (.inr rfl)) (by simp [Tr.dep]) a0 a1
        · rw [if_neg (by simpa using h6)]
          have ed : IntKind.wrap .i64 (((d + 1 : Nat) : Int) - 1) = (d : Int) := by rw [wr _ (by omega) (by omega)]; omega
          rw [ed]
          by_cases h7 : q = 6
          · rw [if_pos (by simpa using h7)]
            refine next_ok (by omega) (by omega) a0 a1 hL _ fun x At'' x0 x1 b0 b1 => ?_
            refine ih m At'' _ (by omega) (by omega) b0 b1 fun t At3 t1 t2 c0 c1 => ?_
            rw [wr _ (by omega) (by omega), eta]
            exact hk (.one (5 + x) t) _ ⟨by omega, t1⟩ (by simp only [Tr.dep]; omega) c0 c1
          · rw [if_neg (by simpa using h7)]
            refine ih m At' _ (by omega) (by omega) a0 a1 fun t At3 t1 t2 c0 c1 => ?_
            refine next_ok (by omega) (by omega) c0 c1 hL _ fun x At'' x0 x1 b0 b1 => ?_
            refine ih m At'' _ (by omega) (by omega) b0 b1 fun u At4 u1 u2 d0 d1 => ?_
            rw [wr _ (by omega) (by omega), eta, eta]
            exact hk (.two (7 + x) t u) _ ⟨by omega, t1, u1⟩ (by simp only [Tr.dep]; omega) d0 d1
/-- the reference's errs -/
theorem may30 (hN : 3 ≤ N) : ∀ (t : Tr) (m : Nat) (k : Bool → Option R), t.ok → 3 * t.dep + 2 < m → (Fam_effect_may_at N m).effect_may R t.e.Kind t.e.N t.e.Name t.e.Kids t.e.At k = k t.bad := by
  obtain ⟨N, rfl⟩ : ∃ q, N = q + 3 := ⟨N - 3, by omega⟩
  have hd : ∀ (F : Fam_effect_may) (kd n : Int) (s : List UInt8) (ks : List Expr) (k : Bool → Option R), effect_may_d F (N + 3) kd n s ks 0 k = if kd = 5 ∨ (7 ≤ kd ∧ kd ≤ 11) then k true else F.slices_ContainsFunc_Expr _ ks (fun r => k r) := by
    intro F kd n s ks k
    unfold effect_may_d
    by_cases c5 : kd = 5
    · subst c5; simp
    by_cases c7 : kd = 7
    · subst c7; simp
    by_cases c8 : kd = 8
    · subst c8; simp
    by_cases c9 : kd = 9
    · subst c9; simp
    by_cases c10 : kd = 10
    · subst c10; simp
    by_cases c11 : kd = 11
    · subst c11; simp
    rw [if_neg (by simpa using c5), if_neg (by simpa using c7), if_neg (by simpa using c8), if_neg (by simpa using c9), if_neg (by simpa using c10), if_neg (by simpa using c11), if_neg (by omega)]
    rfl
  intro t
  induction t with
  | leaf kd n s =>
    intro m k h1 h2
    obtain ⟨m, rfl⟩ : ∃ q, m = q + 3 := ⟨m - 3, by omega⟩
    have h1 : kd = 1 ∨ kd = 2 ∨ kd = 3 := h1
    show effect_may_d (Fam_effect_may_at (N + 3) (m + 2)) (N + 3) kd n s [] 0 k = _
    rw [hd, if_neg (by omega)]
    show slices_ContainsFunc_Expr_d (Fam_effect_may_at (N + 3) (m + 1)) (N + 3) [] _ = _
    unfold slices_ContainsFunc_Expr_d
    change slices_IndexFunc_Expr_d (R := R) (Fam_effect_may_at (N + 3) m) (N + 3) [] (fun (r1 : Int) => k (decide (r1 ≥ 0))) = _
    unfold slices_IndexFunc_Expr_d
    simp only [slices_IndexFunc_Expr_l0, slices_IndexFunc_Expr_l0_b]
    simp [Tr.bad]
  | one kd a iha =>
    intro m k h1 h2
    simp only [Tr.dep] at h2
    obtain ⟨m, rfl⟩ : ∃ q, m = q + 3 := ⟨m - 3, by omega⟩
    obtain ⟨h1, h3⟩ := h1
    show effect_may_d (Fam_effect_may_at (N + 3) (m + 2)) (N + 3) kd 0 [] [a.e] 0 k = _
    rw [hd]
    rcases h1 with rfl | rfl
    · simp [Tr.bad]
    · rw [if_neg (by omega)]
      show slices_ContainsFunc_Expr_d (Fam_effect_may_at (N + 3) (m + 1)) (N + 3) [a.e] _ = _
      unfold slices_ContainsFunc_Expr_d
      change slices_IndexFunc_Expr_d (R := R) (Fam_effect_may_at (N + 3) m) (N + 3) [a.e] (fun (r1 : Int) => k (decide (r1 ≥ 0))) = _
      unfold slices_IndexFunc_Expr_d
      simp only [slices_IndexFunc_Expr_l0, slices_IndexFunc_Expr_l0_b]
      rw [show at? [a.e] 0 = some a.e from rfl]
      simp only [Option.bind_some]
      rw [iha m _ h3 (by omega)]
      cases hb : a.bad with
      | true => simp [Tr.bad, hb]
      | false => simp [Tr.bad, hb, show IntKind.wrap .i64 1 = 1 from rfl]
  | two kd a b iha ihb =>
    intro m k h1 h2
    simp only [Tr.dep] at h2
    obtain ⟨m, rfl⟩ : ∃ q, m = q + 3 := ⟨m - 3, by omega⟩
    obtain ⟨⟨h1, h1'⟩, h3, h4⟩ := h1
    show effect_may_d (Fam_effect_may_at (N + 3) (m + 2)) (N + 3) kd 0 [] [a.e, b.e] 0 k = _
    rw [hd]
    by_cases h5 : kd ≤ 11
    · rw [if_pos (.inr ⟨h1, h5⟩)]; simp [Tr.bad, h5]
    · rw [if_neg (by omega)]
      show slices_ContainsFunc_Expr_d (Fam_effect_may_at (N + 3) (m + 1)) (N + 3) [a.e, b.e] _ = _
      unfold slices_ContainsFunc_Expr_d
      change slices_IndexFunc_Expr_d (R := R) (Fam_effect_may_at (N + 3) m) (N + 3) [a.e, b.e] (fun (r1 : Int) => k (decide (r1 ≥ 0))) = _
      unfold slices_IndexFunc_Expr_d
      simp only [slices_IndexFunc_Expr_l0, slices_IndexFunc_Expr_l0_b]
      rw [show at? [a.e, b.e] 0 = some a.e from rfl, show IntKind.wrap .i64 (0 + 1) = 1 from rfl, show IntKind.wrap .i64 (1 + 1) = 2 from rfl, show at? [a.e, b.e] 1 = some b.e from rfl]
      simp only [Option.bind_some]
      rw [iha m _ h3 (by omega), ihb m _ h4 (by omega)]
      cases ha : a.bad <;> cases hb : b.bad <;> simp [Tr.bad, h5, ha, hb]
end
/-- The expressions of an act that is made: none, or one. -/
def xsOK (X : List Expr) : Prop := X = [] ∨ ∃ t : Tr, X = [t.e] ∧ t.ok ∧ t.dep ≤ 2
def PWs : List (List UInt8) := [[112], [113]]
def aok (P : List Act → Prop) (a : Act) : Prop :=
  xsOK a.X ∧ a.Else = [] ∧ ((1 ≤ a.Kind ∧ a.Kind ≤ 5 ∧ a.Then = [] ∧ (a.Kind = 1 → a.X ≠ []) ∧ (a.Kind = 4 → a.X ≠ []) ∧ (a.Kind = 3 → a.Name ∈ PWs)) ∨ (a.Kind = 7 ∧ a.X = [] ∧ 1 ≤ a.N ∧ a.N ≤ 4 ∧ P a.Then))
def BOK : Nat → List Act → Prop
  | 0, l => l.length ≤ 2 ∧ ∀ a ∈ l, aok (fun _ => False) a
  | d + 1, l => l.length ≤ 2 ∧ ∀ a ∈ l, aok (BOK d) a
def BP : Nat → List Act → Prop
  | 0 => fun _ => False
  | d + 1 => BOK d
theorem BOK_iff {d : Nat} {l : List Act} : BOK d l ↔ l.length ≤ 2 ∧ ∀ a ∈ l, aok (BP d) a := by cases d <;> rfl
section
variable {R : Type} {P : R → Prop} {N : Nat}
theorem event_ok (v : Int) (k : List UInt8 → Option R) : ∃ e, r37_Event N v k = k e := by
  obtain ⟨x, h0, h1, hx⟩ := place_ok (N := N) (v := v) (n := 8) (by omega) (by omega) (fun (r1 : Int) =>
    (at? [[103, 111], [112, 105, 110, 103], [112, 111, 110, 103], [101, 114, 114, 111, 114], [116, 48], [98, 97, 108, 108], [103, 111], [112, 105, 110, 103]] r1).bind fun e2 => k e2)
  unfold r37_Event
  refine ⟨([[103, 111], [112, 105, 110, 103], [112, 111, 110, 103], [101, 114, 114, 111, 114], [116, 48], [98, 97, 108, 108], [103, 111], [112, 105, 110, 103]] : List (List UInt8))[x.toNat]'(by simp; omega), hx.trans ?_⟩
  have : at? [[103, 111], [112, 105, 110, 103], [112, 111, 110, 103], [101, 114, 114, 111, 114], [116, 48], [98, 97, 108, 108], [103, 111], [112, 105, 110, 103]] x = some (([[103, 111], [112, 105, 110, 103], [112, 111, 110, 103], [101, 114, 114, 111, 114], [116, 48], [98, 97, 108, 108], [103, 111], [112, 105, 110, 103]] : List (List UInt8))[x.toNat]'(by simp; omega)) := by
    unfold at?; rw [if_neg (by omega), List.getElem?_eq_getElem]
  rw [this]
  rfl
theorem takeX {t : Tr} (ht : t.ok) (hd : t.dep ≤ 2) {q : Int} (h0 : 0 ≤ q) (h1 : q < 2) : xsOK ((([t.e] : List Expr).drop (Int.toNat 0)).take (q.toNat - (Int.toNat 0))) := by
  have : q = 0 ∨ q = 1 := by omega
  rcases this with rfl | rfl
  · exact .inl rfl
  · exact .inr ⟨t, rfl, ht, hd⟩
theorem block37 {V Po Ti : List (List UInt8)} (hV : V ≠ []) (hV2 : V.length ≤ 100) (hP : Po ≠ []) (hP2 : Po.length ≤ 100) (hT : Ti ≠ []) (hT2 : Ti.length ≤ 100) (hPo : ∀ x ∈ Po, x ∈ PWs) {L : List Int} (hL : L.length ≤ 1000) (hN : 200 < N) :
    ∀ (d m : Nat) (At : Int) (k : List Act → Int → Option R), d < m → d ≤ 100 → 0 ≤ At → At ≤ L.length →
    (∀ (l : List Act) (At' : Int), BOK d l → 0 ≤ At' → At' ≤ (L.length : Int) → Ok P (k l At')) → Ok P ((Fam_r37_Block_at N m).r37_Block R V Po Ti [] d L At k)
  | d, 0, _, _, h, _, _, _, _ => by omega
  | d, m + 1, At, k, hm, hd, h0, h1, hk => by
    show Ok P (r37_Block_d (Fam_r37_Block_at N m) N V Po Ti [] d L At k)
    unfold r37_Block_d
    refine next_ok (by omega) (by omega) h0 h1 hL _ fun x At' x0 x1 a0 a1 => ?_
    have key : ∀ (n : Nat) (c : Nat) (At : Int) (out : List Act), c < n → c ≤ 2 → out.length + c ≤ 2 → (∀ a ∈ out, aok (BP d) a) → 0 ≤ At → At ≤ (L.length : Int) →
        Ok P (r37_Block_l0 (Fam_r37_Block_at N m) N d L V Po Ti [] (fun (y72 : Int) (y73 : List Act) => k y73 y72) n (c : Int) At out) := by
      intro n
      induction n with
      | zero => intro c At out h; omega
      | succ n ih =>
        intro c At out hcn hc ho ha b0 b1
        show Ok P (r37_Block_l0_b (Fam_r37_Block_at N m) N d L V Po Ti [] (fun (y72 : Int) (y73 : List Act) => k y73 y72) (r37_Block_l0 (Fam_r37_Block_at N m) N d L V Po Ti [] (fun (y72 : Int) (y73 : List Act) => k y73 y72) n) (c : Int) At out)
        unfold r37_Block_l0_b
        by_cases hc0 : c = 0
        · subst hc0
          rw [if_neg (by simp)]
          exact hk out At (BOK_iff.2 ⟨by omega, ha⟩) b0 b1
        rw [if_pos (by simp; omega)]
        have hw : IntKind.wrap .i64 ((c : Int) - 1) = ((c - 1 : Nat) : Int) := by rw [wr _ (by omega) (by omega)]; omega
        rw [hw]
        have add : ∀ (a : Act) (At' : Int), aok (BP d) a → 0 ≤ At' → At' ≤ (L.length : Int) →
            Ok P (if out.length + [a].length ≤ maxRow then (r37_Block_l0 (Fam_r37_Block_at N m) N d L V Po Ti [] (fun (y72 : Int) (y73 : List Act) => k y73 y72) n ((c - 1 : Nat) : Int) At' (out ++ [a])) else none) := by
          intro a At' haa c0 c1
          rw [if_pos (by simp [maxRow]; omega)]
          exact ih (c - 1) At' (out ++ [a]) (by omega) (by omega) (by simp; omega) (fun b hb => by
            rcases List.mem_append.1 hb with hb | hb
            · exact ha b hb
            · simp at hb; subst hb; exact haa) c0 c1
        refine next_ok (by omega) (by omega) b0 b1 hL _ fun q At1 q0 q1 c0 c1 => ?_
        refine expr37 hV hV2 hL 2 N At1 _ (by omega) (by omega) c0 c1 fun t At2 t1 t2 d0 d1 => ?_
        rw [eta]
        have hV3 : decide (((V.length : Nat) : Int) > 0) = true := by have := List.length_pos_iff.2 hV; simp; omega
        have hP3 : decide (((Po.length : Nat) : Int) > 0) = true := by have := List.length_pos_iff.2 hP; simp; omega
        have hT3 : decide (((Ti.length : Nat) : Int) > 0) = true := by have := List.length_pos_iff.2 hT; simp; omega
        rw [hV3, hP3, hT3]
        have xt : xsOK [t.e] := .inr ⟨t, rfl, t1, t2⟩
        by_cases k1 : q < 3
        · rw [show decide (q < 3) = true by simpa using k1, ifB_tt, Option.bind_some, if_pos rfl]
          refine pick_ok hV hV2 d0 d1 hL _ fun x At3 hin e0 e1 => ?_
          exact add _ _ ⟨xt, rfl, .inl ⟨(by decide : (1 : Int) ≤ 1), (by decide : (1 : Int) ≤ 5), rfl, fun _ => by simp, fun _ => by simp, fun h => by simp at h⟩⟩ e0 e1
        rw [show decide (q < 3) = false by simpa using k1, ifB_ft, Option.bind_some, if_neg (by simp)]
        by_cases k2 : q = 3
        · rw [if_pos (by simpa using k2)]
          refine next_ok (by omega) (by omega) d0 d1 hL _ fun x At3 x0 x1 e0 e1 => ?_
          obtain ⟨ev, hev⟩ := event_ok (N := N) x (fun (r44 : List UInt8) =>
      r37_Row_Next N 2 L At3 (fun (r45 : Int) (r46 : Int) =>
      if (0 : Int) ≤ 0 ∧ 0 ≤ r45 ∧ r45 ≤ (([t.e].length : Nat) : Int) then (if out.length + ([(⟨2, [], r44, ([t.e].drop (Int.toNat 0)).take (r45.toNat - (Int.toNat 0)), 0, [], [], 0⟩ : Act)]).length ≤ maxRow then ((r37_Block_l0 (Fam_r37_Block_at N m) N d L V Po Ti [] (fun (y72 : Int) (y73 : List Act) => k y73 y72) n) ((c - 1 : Nat) : Int) r46 (out ++ ([(⟨2, [], r44, ([t.e].drop (Int.toNat 0)).take (r45.toNat - (Int.toNat 0)), 0, [], [], 0⟩ : Act)]))) else none) else none))
          rw [hev]
          refine next_ok (by omega) (by omega) e0 e1 hL _ fun z At4 z0 z1 f0 f1 => ?_
          rw [if_pos ⟨by omega, by omega, by simp; omega⟩]
          exact add _ _ ⟨takeX t1 t2 z0 z1, rfl, .inl ⟨(by decide : (1 : Int) ≤ 2), (by decide : (2 : Int) ≤ 5), rfl, fun h => by simp at h, fun h => by simp at h, fun h => by simp at h⟩⟩ f0 f1
        rw [if_neg (by simpa using k2)]
        by_cases k3 : q < 7
        · rw [show decide (q < 7) = true by simpa using k3, ifB_tt, Option.bind_some, if_pos rfl]
          refine pick_ok hP hP2 d0 d1 hL _ fun po At3 hin e0 e1 => ?_
          refine next_ok (by omega) (by omega) e0 e1 hL _ fun x At4 x0 x1 f0 f1 => ?_
          obtain ⟨ev, hev⟩ := event_ok (N := N) x (fun (r52 : List UInt8) =>
        r37_Row_Next N 2 L At4 (fun (r53 : Int) (r54 : Int) =>
        if (0 : Int) ≤ 0 ∧ 0 ≤ r53 ∧ r53 ≤ (([t.e].length : Nat) : Int) then (if out.length + ([(⟨3, po, r52, ([t.e].drop (Int.toNat 0)).take (r53.toNat - (Int.toNat 0)), 0, [], [], 0⟩ : Act)]).length ≤ maxRow then ((r37_Block_l0 (Fam_r37_Block_at N m) N d L V Po Ti [] (fun (y72 : Int) (y73 : List Act) => k y73 y72) n) ((c - 1 : Nat) : Int) r54 (out ++ ([(⟨3, po, r52, ([t.e].drop (Int.toNat 0)).take (r53.toNat - (Int.toNat 0)), 0, [], [], 0⟩ : Act)]))) else none) else none))
          rw [hev]
          refine next_ok (by omega) (by omega) f0 f1 hL _ fun z At5 z0 z1 g0 g1 => ?_
          rw [if_pos ⟨by omega, by omega, by simp; omega⟩]
          exact add _ _ ⟨takeX t1 t2 z0 z1, rfl, .inl ⟨(by decide : (1 : Int) ≤ 3), (by decide : (3 : Int) ≤ 5), rfl, fun h => by simp at h, fun h => by simp at h, fun _ => hPo _ hin⟩⟩ g0 g1
        rw [show decide (q < 7) = false by simpa using k3, ifB_ft, Option.bind_some, if_neg (by simp)]
        by_cases k4 : q = 7
        · rw [show (q == 7) = true by simpa using k4, ifB_tt, Option.bind_some, if_pos rfl]
          refine pick_ok hT hT2 d0 d1 hL _ fun ti At3 hin e0 e1 => ?_
          refine next_ok (by omega) (by omega) e0 e1 hL _ fun x At4 x0 x1 f0 f1 => ?_
          exact add _ _ ⟨.inr ⟨.leaf 1 (IntKind.wrap .i64 (1 + x)) [], rfl, .inl rfl, by simp [Tr.dep]⟩, rfl, .inl ⟨(by decide : (1 : Int) ≤ 4), (by decide : (4 : Int) ≤ 5), rfl, fun h => by simp at h, fun h => by simp, fun h => by simp at h⟩⟩ f0 f1
        rw [show (q == 7) = false by simpa using k4, ifB_ft, Option.bind_some, if_neg (by simp)]
        by_cases k5 : q = 8
        · rw [show (q == 8) = true by simpa using k5, ifB_tt, Option.bind_some, if_pos rfl]
          refine pick_ok hT hT2 d0 d1 hL _ fun ti At3 hin e0 e1 => ?_
          exact add _ _ ⟨.inl rfl, rfl, .inl ⟨(by decide : (1 : Int) ≤ 5), (by decide : (5 : Int) ≤ 5), rfl, fun h => by simp at h, fun h => by simp at h, fun h => by simp at h⟩⟩ e0 e1
        rw [show (q == 8) = false by simpa using k5, ifB_ft, Option.bind_some, if_neg (by simp)]
        have q9 : q = 9 := by omega
        subst q9
        by_cases hd0 : d = 0
        · subst hd0
          rw [show decide (((0 : Nat) : Int) > 0) = false by decide, ifB_ft, Option.bind_some, if_neg (by simp), if_neg (by simp)]
          exact ih (c - 1) At2 out (by omega) (by omega) (by omega) ha d0 d1
        obtain ⟨d', rfl⟩ : ∃ d', d = d' + 1 := ⟨d - 1, by omega⟩
        have hd3 : decide (((d' + 1 : Nat) : Int) > 0) = true := by simp
        rw [hd3, ifB_tt, Option.bind_some]
        have hw2 : IntKind.wrap .i64 (((d' + 1 : Nat) : Int) - 1) = ((d' : Nat) : Int) := by rw [wr _ (by omega) (by omega)]; omega
        rw [if_neg (by decide), if_pos rfl, hw2]
        refine next_ok (by omega) (by omega) d0 d1 hL _ fun x At3 x0 x1 e0 e1 => ?_
        refine block37 hV hV2 hP hP2 hT hT2 hPo hL hN d' m At3 _ (by omega) (by omega) e0 e1 fun l1 At4 hl1 f0 f1 => ?_
        have hwx : IntKind.wrap .i64 (1 + x) = 1 + x := wr _ (by omega) (by omega)
        exact add _ _ ⟨.inl rfl, rfl, .inr ⟨rfl, rfl, by show 1 ≤ IntKind.wrap .i64 (1 + x); omega, by show IntKind.wrap .i64 (1 + x) ≤ 4; omega, hl1⟩⟩ f0 f1
    obtain ⟨c, rfl⟩ : ∃ c : Nat, x = (c : Int) := ⟨x.toNat, by omega⟩
    exact key N c At' [] (by omega) (by omega) (by simp; omega) (by simp) a0 a1
end
def opok (bd : Bool) (o : Int) : Prop := (1 ≤ o ∧ o ≤ 17 ∧ (bd = false → o ≠ 5 ∧ ¬ (7 ≤ o ∧ o ≤ 11))) ∨ o = 23 ∨ o = 24
theorem opok.mono {b1 b2 : Bool} {o : Int} (h : opok b1 o) (hb : b2 = false → b1 = false) : opok b2 o := by
  rcases h with ⟨h1, h2, h3⟩ | h
  · exact .inl ⟨h1, h2, fun e => h3 (hb e)⟩
  · exact .inr h
/-- The list l goes on from c: its own part has such operations, jumps forward but for those that are pending. -/
structure H (c l : List Ins) (bd : Bool) (p : Nat → Prop) : Prop where
  pre : l.take c.length = c
  le : c.length ≤ l.length
  own : ∀ (i : Nat) (x : Ins), c.length ≤ i → l[i]? = some x → opok bd x.Op ∧ ((x.Op = 23 ∨ x.Op = 24) → p i ∨ ((i : Int) < x.A ∧ x.A ≤ (l.length : Int)))
theorem H.refl (c : List Ins) (bd : Bool) (p : Nat → Prop) : H c c bd p :=
  ⟨List.take_length, Nat.le_refl _, fun i x h1 h2 => by have := (List.getElem?_eq_some_iff.1 h2).1; omega⟩
theorem H.app {c l : List Ins} {bd : Bool} {p p' : Nat → Prop} (h : H c l bd p) (xs : List Ins) (hp : ∀ i, p i → p' i)
    (hx : ∀ (j : Nat) (x : Ins), xs[j]? = some x → opok bd x.Op ∧ ((x.Op = 23 ∨ x.Op = 24) → p' (l.length + j))) : H c (l ++ xs) bd p' := by
  refine ⟨by rw [List.take_append_of_le_length h.le, h.pre], by have := h.le; rw [List.length_append]; omega, fun i x h1 h2 => ?_⟩
  by_cases hi : i < l.length
  · rw [List.getElem?_append_left hi] at h2
    obtain ⟨q1, q2⟩ := h.own i x h1 h2
    exact ⟨q1, fun q => (q2 q).imp (hp i) fun h => ⟨h.1, by have := h.2; rw [List.length_append]; omega⟩⟩
  · rw [List.getElem?_append_right (by omega)] at h2
    obtain ⟨q1, q2⟩ := hx _ x h2
    refine ⟨q1, fun q => .inl ?_⟩
    have := q2 q
    rwa [show l.length + (i - l.length) = i by omega] at this
theorem H.set {c l : List Ins} {bd : Bool} {p p' : Nat → Prop} (h : H c l bd p) {i : Nat} {x : Ins} (hi : c.length ≤ i) (hx : l[i]? = some x) {A : Int} (hA : (i : Int) < A) (hp : ∀ j, p j → j ≠ i → p' j) (hA2 : A ≤ (l.length : Int) := by omega) : H c (l.set i ⟨x.Op, A, x.N, x.S⟩) bd p' := by
  refine ⟨by rw [List.take_set_of_le (by omega), h.pre], by rw [List.length_set]; exact h.le, fun j y h1 h2 => ?_⟩
  by_cases e : j = i
  · subst e
    rw [List.getElem?_set_self (List.getElem?_eq_some_iff.1 hx).1] at h2
    cases h2
    exact ⟨(h.own j x h1 hx).1, fun _ => .inr ⟨hA, by rw [List.length_set]; exact hA2⟩⟩
  · rw [List.getElem?_set_ne (Ne.symm e)] at h2
    obtain ⟨q1, q2⟩ := h.own j y h1 h2
    exact ⟨q1, fun q => (q2 q).imp (fun q => hp j q e) fun h => by rw [List.length_set]; exact h⟩
theorem H.comp {c l l2 : List Ins} {b1 b2 bd : Bool} {p : Nat → Prop} (h : H c l b1 p) (h2 : H l l2 b2 (fun _ => False)) (e1 : bd = false → b1 = false) (e2 : bd = false → b2 = false) : H c l2 bd p := by
  have hle := h2.le
  refine ⟨?_, Nat.le_trans h.le h2.le, fun i x h3 h4 => ?_⟩
  · have : (l2.take l.length).take c.length = c := by rw [h2.pre, h.pre]
    rwa [List.take_take, Nat.min_eq_left h.le] at this
  · by_cases hi : i < l.length
    · have : l[i]? = some x := by rw [← h2.pre, List.getElem?_take, if_pos hi]; exact h4
      obtain ⟨q1, q2⟩ := h.own i x h3 this
      exact ⟨q1.mono e1, fun q => (q2 q).imp id fun h => ⟨h.1, by have := h.2; have := h2.le; omega⟩⟩
    · obtain ⟨q1, q2⟩ := h2.own i x (by omega) h4
      exact ⟨q1.mono e2, fun q => (q2 q).elim (fun q => q.elim) .inr⟩
theorem H.weak {c l : List Ins} {bd b2 : Bool} {p p' : Nat → Prop} (h : H c l bd p) (hp : ∀ i, p i → p' i) (hb : b2 = false → bd = false) : H c l b2 p' :=
  ⟨h.pre, h.le, fun i x h1 h2 => ⟨(h.own i x h1 h2).1.mono hb, fun q => ((h.own i x h1 h2).2 q).imp (hp i) id⟩⟩
section
variable {R : Type} {N : Nat}
theorem place16 (hN : big ≤ N) (l : List (List UInt8)) (hl : l.length ≤ 1000) (s : List UInt8) : ∃ x, ∀ k : Int → Option R, r16_place N l s k = k x := by
  have hb : big = 1000000000 := rfl
  have key : ∀ (n i : Nat), l.length < n + i → i ≤ l.length → ∃ x : Int, ∀ k : Int → Option R, r16_place_l0 N l s (k (-1)) k n (i : Int) = k x := by
    intro n
    induction n with
    | zero => intro i h1 h2; omega
    | succ n ih =>
      intro i h1 h2
      simp only [r16_place_l0, r16_place_l0_b]
      by_cases hi : i < l.length
      · obtain ⟨x, hx, _⟩ := drop_cons hi
        by_cases he : x = s
        · exact ⟨i, fun k => by rw [if_pos (by simpa using hi), at_nat, hx, Option.bind_some, if_pos (by simpa using he)]⟩
        · obtain ⟨y, hy⟩ := ih (i + 1) (by omega) (by omega)
          exact ⟨y, fun k => by rw [if_pos (by simpa using hi), at_nat, hx, Option.bind_some, if_neg (by simpa using he), wr _ (by omega) (by omega)]; exact hy k⟩
      · exact ⟨-1, fun k => by rw [if_neg (by simpa using hi)]⟩
  obtain ⟨x, hx⟩ := key N 0 (by omega) (by omega)
  exact ⟨x, fun k => hx k⟩
theorem op16 {kd : Int} (h1 : 5 ≤ kd) (h2 : kd ≤ 19) (k : Int → Option R) : r16_op N kd k = k kd := by
  unfold r16_op
  by_cases c5 : kd = 5
  · subst c5; simp
  by_cases c6 : kd = 6
  · subst c6; simp
  rw [if_neg (by simpa using c5), if_neg (by simpa using c6), wr (7 + kd) (by omega) (by omega), wr _ (by omega) (by omega), show 7 + kd - 7 = kd by omega]
end
section
variable {R : Type} {N : Nat}
theorem c16_2 (hN : big ≤ N) {V Po Ti : List (List UInt8)} (hV : V.length ≤ 1000) : ∀ (t : Tr) (m : Nat) (c : List Ins), t.ok → 2 * t.dep < m → c.length + t.len ≤ 1000000 →
    ∃ l, (∀ k : List Ins → Option R, (Fam_r16_expr_2_at N m).r16_expr_2 R t.e.Kind t.e.N t.e.Name t.e.Kids t.e.At V Po Ti [] c k = k l) ∧ l.length = c.length + t.len ∧ H c l t.bad (fun _ => False) := by
  have hb : big = 1000000000 := rfl
  have hm : maxRow = 68719476736 := rfl
  intro t
  induction t with
  | leaf kd n s =>
    intro m c h1 h2 h3
    obtain ⟨m, rfl⟩ : ∃ q, m = q + 1 := ⟨m - 1, by omega⟩
    simp only [Tr.len] at h3
    have h1 : kd = 1 ∨ kd = 2 ∨ kd = 3 := h1
    have fin : ∀ x : Ins, (x.Op = 1 ∨ x.Op = 2 ∨ x.Op = 3) → H c (c ++ [x]) false (fun _ => False) := fun x hx => by
      refine H.app (H.refl c false (fun _ => False)) [x] (fun _ h => h) fun j y hy => ?_
      cases j with
      | zero => cases hy; exact ⟨.inl ⟨by omega, by omega, fun _ => ⟨by omega, by omega⟩⟩, fun q => by omega⟩
      | succ j => simp at hy
    rcases h1 with rfl | rfl | rfl
    · refine ⟨c ++ [⟨1, 0, n, []⟩], fun k => ?_, by simp [Tr.len], fin _ (.inl rfl)⟩
      show r16_expr_2_d (Fam_r16_expr_2_at N m) N 1 n s [] 0 V Po Ti [] c k = _
      unfold r16_expr_2_d
      rw [if_pos (by rfl), if_pos (by simp; omega)]
    · obtain ⟨x, hx⟩ := place16 (R := R) hN V hV s
      refine ⟨c ++ [⟨2, x, 0, []⟩], fun k => ?_, by simp [Tr.len], fin _ (.inr (.inl rfl))⟩
      show r16_expr_2_d (Fam_r16_expr_2_at N m) N 2 n s [] 0 V Po Ti [] c k = _
      unfold r16_expr_2_d
      rw [if_neg (by decide), if_pos (by rfl), hx, if_pos (by simp; omega)]
    · refine ⟨c ++ [⟨3, 0, 0, []⟩], fun k => ?_, by simp [Tr.len], fin _ (.inr (.inr rfl))⟩
      show r16_expr_2_d (Fam_r16_expr_2_at N m) N 3 n s [] 0 V Po Ti [] c k = _
      unfold r16_expr_2_d
      rw [if_neg (by decide), if_neg (by decide), if_pos (by rfl), if_pos (by simp; omega)]
  | one kd a iha =>
    intro m c h1 h2 h3
    obtain ⟨m, rfl⟩ : ∃ q, m = q + 1 := ⟨m - 1, by omega⟩
    obtain ⟨h1, h4⟩ := h1
    simp only [Tr.len, Tr.dep] at h3 h2
    obtain ⟨l1, f1, n1, H1⟩ := iha m c h4 (by omega) (by omega)
    refine ⟨l1 ++ [⟨kd, 0, 0, []⟩], fun k => ?_, by simp only [Tr.len, List.length_append, List.length_cons, List.length_nil]; omega, ?_⟩
    · show r16_expr_2_d (Fam_r16_expr_2_at N m) N kd 0 [] [a.e] 0 V Po Ti [] c k = _
      have c12 : ∀ (q : Bool) (kp1 : Option R), q = true → r16_expr_2_c12 (Fam_r16_expr_2_at N m) N kd q c kd 0 [] [a.e] 0 V Po Ti [] (fun (y : List Ins) => k y) kp1 = k (l1 ++ [⟨kd, 0, 0, []⟩]) := by
        intro q kp1 hq
        unfold r16_expr_2_c12
        rw [if_pos hq, show at? [a.e] 0 = some a.e from rfl, Option.bind_some, f1, op16 (by omega) (by omega), if_pos (by simp only [List.length_cons, List.length_nil]; omega)]
      unfold r16_expr_2_d
      rw [if_neg (by simp; omega), if_neg (by simp; omega), if_neg (by simp; omega), if_neg (by simp; omega)]
      rcases h1 with rfl | rfl
      · rw [if_pos (by rfl)]; exact c12 _ _ rfl
      · rw [if_neg (by decide)]; exact c12 _ _ rfl
    · refine H.app (H1.weak (fun _ h => h) fun e => ?_) _ (fun _ h => h) fun j y hy => ?_
      · simp only [Tr.bad, Bool.or_eq_false_iff] at e; exact e.2
      · cases j with
        | zero =>
          cases hy
          refine ⟨.inl ⟨by simp only; omega, by simp only; omega, fun e => ?_⟩, fun q => by simp only at q; omega⟩
          simp only [Tr.bad, Bool.or_eq_false_iff, beq_eq_false_iff_ne] at e
          exact ⟨e.1, by simp only; omega⟩
        | succ j => simp at hy
  | two kd a b iha ihb =>
    intro m c h1 h2 h3
    obtain ⟨⟨h1, h1'⟩, h4, h5⟩ := h1
    simp only [Tr.len, Tr.dep] at h3 h2
    obtain ⟨m, rfl⟩ : ∃ q, m = q + 2 := ⟨m - 2, by omega⟩
    have badA : (Tr.two kd a b).bad = false → a.bad = false := fun e => by simp only [Tr.bad, Bool.or_eq_false_iff] at e; exact e.2.1
    have badB : (Tr.two kd a b).bad = false → b.bad = false := fun e => by simp only [Tr.bad, Bool.or_eq_false_iff] at e; exact e.2.2
    have hla : c.length + a.len ≤ 1000000 := by omega
    obtain ⟨l1, f1, n1, H1⟩ := iha m c h4 (by omega) hla
    obtain ⟨l1', f1', n1', H1'⟩ := iha (m + 1) c h4 (by omega) hla
    have dsp : ∀ k : List Ins → Option R, (Fam_r16_expr_2_at N (m + 2)).r16_expr_2 R kd 0 [] [a.e, b.e] 0 V Po Ti [] c k = if kd = 18 then r16_and_2_d (Fam_r16_expr_2_at N m) N kd 0 [] [a.e, b.e] 0 V Po Ti [] c k else if kd = 19 then r16_or_2_d (Fam_r16_expr_2_at N m) N kd 0 [] [a.e, b.e] 0 V Po Ti [] c k else r16_expr_2_c17 (Fam_r16_expr_2_at N (m + 1)) N c kd 0 [] [a.e, b.e] 0 V Po Ti [] k := by
      intro k
      show r16_expr_2_d (Fam_r16_expr_2_at N (m + 1)) N kd 0 [] [a.e, b.e] 0 V Po Ti [] c k = _
      unfold r16_expr_2_d
      rw [if_neg (by simp; omega), if_neg (by simp; omega), if_neg (by simp; omega), if_neg (by simp; omega), if_neg (by simp; omega)]
      unfold r16_expr_2_c12
      rw [if_neg (by simp; omega)]
      by_cases c18 : kd = 18
      · subst c18; rfl
      · rw [if_neg (by simpa using c18), if_neg c18]
        by_cases c19 : kd = 19
        · subst c19; rfl
        · rw [if_neg (by simpa using c19), if_neg c19]
    have at0 : at? [a.e, b.e] 0 = some a.e := rfl
    have at1 : at? [a.e, b.e] 1 = some b.e := rfl
    by_cases c18 : kd = 18
    · subst c18
      rw [if_pos rfl] at h3
      have hlb : (l1 ++ [(⟨24, 0, 0, []⟩ : Ins)]).length + b.len ≤ 1000000 := by simp only [List.length_append, List.length_cons, List.length_nil]; omega
      obtain ⟨l3, f3, n3, H3⟩ := ihb m (l1 ++ [⟨24, 0, 0, []⟩]) h5 (by omega) hlb
      simp only [List.length_append, List.length_cons, List.length_nil] at n3 hlb
      have he5 : (l3 ++ [(⟨24, 0, 0, []⟩ : Ins), (⟨1, 0, 1, []⟩ : Ins), (⟨23, 0, 0, []⟩ : Ins)])[l1.length]? = some ⟨24, 0, 0, []⟩ := by
        rw [List.getElem?_append_left (by omega)]
        have : (l3.take (l1 ++ [(⟨24, 0, 0, []⟩ : Ins)]).length)[l1.length]? = (l1 ++ [(⟨24, 0, 0, []⟩ : Ins)])[l1.length]? := by rw [H3.pre]
        rw [List.getElem?_take, if_pos (by simp), List.getElem?_append_right (Nat.le_refl _), Nat.sub_self] at this
        exact this
      generalize hX : ([(⟨24, 0, 0, []⟩ : Ins), (⟨1, 0, 1, []⟩ : Ins), (⟨23, 0, 0, []⟩ : Ins)]) = X3 at he5
      have hXl : X3.length = 3 := by rw [← hX]; rfl
      have hL0 : (l3 ++ X3).length = l3.length + 3 := by rw [List.length_append, hXl]
      let L1 := (l3 ++ X3).set l1.length ⟨24, ((l3 ++ X3).length : Nat), 0, []⟩
      have he6 : L1[l3.length]? = some ⟨24, 0, 0, []⟩ := by
        show ((l3 ++ X3).set l1.length _)[l3.length]? = _
        rw [List.getElem?_set_ne (by omega), List.getElem?_append_right (Nat.le_refl _), Nat.sub_self, ← hX]; rfl
      let L2 := L1.set l3.length ⟨24, ((l3 ++ X3).length : Nat), 0, []⟩
      have hl1 : L1.length = l3.length + 3 := by simp only [L1, List.length_set, hL0]
      have hl2 : L2.length = l3.length + 3 := by simp only [L2, List.length_set, hl1]
      let L3 := L2 ++ [(⟨1, 0, 0, []⟩ : Ins)]
      have hl3 : L3.length = l3.length + 4 := by simp only [L3, List.length_append, hl2]; rfl
      have he7 : L3[l3.length + 2]? = some ⟨23, 0, 0, []⟩ := by
        show (L2 ++ _)[l3.length + 2]? = _
        rw [List.getElem?_append_left (by omega)]
        show (L1.set l3.length _)[l3.length + 2]? = _
        rw [List.getElem?_set_ne (by omega)]
        show ((l3 ++ X3).set l1.length _)[l3.length + 2]? = _
        rw [List.getElem?_set_ne (by omega), List.getElem?_append_right (by omega), show l3.length + 2 - l3.length = 2 by omega, ← hX]; rfl
      refine ⟨L3.set (l3.length + 2) ⟨23, (L3.length : Nat), 0, []⟩, fun k => ?_, ?_, ?_⟩
      · refine (dsp k).trans ?_
        rw [if_pos rfl]
        unfold r16_and_2_d
        rw [at0, Option.bind_some, f1, if_pos (by simp only [List.length_cons, List.length_nil]; omega), at1, Option.bind_some, f3]
        rw [hX, if_pos (by omega), if_pos ⟨by omega, by omega⟩]
        rw [show (((l1.length : Nat) : Int)).toNat = l1.length from rfl, he5]
        dsimp only
        rw [if_pos ⟨by omega, by rw [List.length_set]; omega⟩]
        rw [show (((l3.length : Nat) : Int)).toNat = l3.length from rfl, show ((l3 ++ X3).set l1.length ⟨24, ((l3 ++ X3).length : Nat), 0, []⟩)[l3.length]? = some ⟨24, 0, 0, []⟩ from he6]
        dsimp only
        have w2 : IntKind.wrap .i64 (((l3.length : Nat) : Int) + 2) = ((l3.length + 2 : Nat) : Int) := by rw [wr _ (by omega) (by omega)]; omega
        rw [w2, if_pos (by rw [List.length_set, List.length_set]; simp only [List.length_cons, List.length_nil]; omega)]
        refine (if_pos ⟨by omega, show ((l3.length + 2 : Nat) : Int) < (L3.length : Int) by omega⟩).trans ?_
        · rw [show (((l3.length + 2 : Nat) : Int)).toNat = l3.length + 2 from rfl]
          show (match L3[l3.length + 2]? with | some e7 => k (L3.set (l3.length + 2) ⟨e7.Op, (L3.length : Nat), e7.N, e7.S⟩) | none => none) = _
          rw [he7]
      · rw [List.length_set, hl3]; show _ = _ + (a.len + b.len + (if (18 : Int) = 18 then 5 else _)); rw [if_pos rfl]; omega
      · have k2 : H c (l1 ++ [⟨24, 0, 0, []⟩]) a.bad (fun i => i = l1.length) := H1.app _ (fun _ h => h.elim) fun j y hy => by
          cases j with
          | zero => cases hy; exact ⟨.inr (.inr rfl), fun _ => rfl⟩
          | succ j => simp at hy
        have k3 := k2.comp H3 (bd := (Tr.two 18 a b).bad) badA badB
        have k4 : H c (l3 ++ X3) (Tr.two 18 a b).bad (fun i => i = l1.length ∨ i = l3.length ∨ i = l3.length + 2) := k3.app _ (fun _ h => .inl h) fun j y hy => by
          rw [← hX] at hy
          match j with
          | 0 => cases hy; exact ⟨.inr (.inr rfl), fun _ => .inr (.inl rfl)⟩
          | 1 => cases hy; exact ⟨.inl ⟨by decide, by decide, fun _ => by decide⟩, fun q => by simp only at q; omega⟩
          | 2 => cases hy; exact ⟨.inr (.inl rfl), fun _ => .inr (.inr rfl)⟩
          | j + 3 => simp at hy
        have cl := H1.le
        have k5 : H c L1 (Tr.two 18 a b).bad (fun i => i = l3.length ∨ i = l3.length + 2) := k4.set cl he5 (by omega) fun j h hn => h.resolve_left hn
        have k6 : H c L2 (Tr.two 18 a b).bad (fun i => i = l3.length + 2) := k5.set (by omega) he6 (by omega) fun j h hn => h.resolve_left hn
        have k7 : H c L3 (Tr.two 18 a b).bad (fun i => i = l3.length + 2) := k6.app _ (fun _ h => h) fun j y hy => by
          cases j with
          | zero => cases hy; exact ⟨.inl ⟨by decide, by decide, fun _ => by decide⟩, fun q => by simp only at q; omega⟩
          | succ j => simp at hy
        exact k7.set (by omega) he7 (by omega) fun j h hn => hn h
    · rw [if_neg c18] at h3
      by_cases c19 : kd = 19
      · subst c19
        rw [if_pos rfl] at h3
        generalize hX : ([(⟨24, 0, 0, []⟩ : Ins), (⟨1, 0, 1, []⟩ : Ins), (⟨23, 0, 0, []⟩ : Ins)]) = X3
        have hXl : X3.length = 3 := by rw [← hX]; rfl
        have x0 : X3[0]? = some ⟨24, 0, 0, []⟩ := by rw [← hX]; rfl
        have x2 : X3[2]? = some ⟨23, 0, 0, []⟩ := by rw [← hX]; rfl
        have hL0 : (l1 ++ X3).length = l1.length + 3 := by rw [List.length_append, hXl]
        have he3 : (l1 ++ X3)[l1.length]? = some ⟨24, 0, 0, []⟩ := by rw [List.getElem?_append_right (Nat.le_refl _), Nat.sub_self]; exact x0
        let L1 := (l1 ++ X3).set l1.length ⟨24, ((l1 ++ X3).length : Nat), 0, []⟩
        have hl1 : L1.length = l1.length + 3 := by simp only [L1, List.length_set, hL0]
        obtain ⟨l5, f5, n5, H5⟩ := ihb m L1 h5 (by omega) (by omega)
        have hL2 : (l5 ++ X3).length = l5.length + 3 := by rw [List.length_append, hXl]
        have he6 : (l5 ++ X3)[l5.length]? = some ⟨24, 0, 0, []⟩ := by rw [List.getElem?_append_right (Nat.le_refl _), Nat.sub_self]; exact x0
        let L2 := (l5 ++ X3).set l5.length ⟨24, ((l5 ++ X3).length : Nat), 0, []⟩
        have hl2 : L2.length = l5.length + 3 := by simp only [L2, List.length_set, hL2]
        let L3 := L2 ++ [(⟨1, 0, 0, []⟩ : Ins)]
        have hl3 : L3.length = l5.length + 4 := by simp only [L3, List.length_append, hl2]; rfl
        have he7 : L3[l1.length + 2]? = some ⟨23, 0, 0, []⟩ := by
          show (L2 ++ _)[l1.length + 2]? = _
          rw [List.getElem?_append_left (by omega)]
          show ((l5 ++ X3).set l5.length _)[l1.length + 2]? = _
          rw [List.getElem?_set_ne (by omega), List.getElem?_append_left (by omega)]
          have : (l5.take L1.length)[l1.length + 2]? = L1[l1.length + 2]? := by rw [H5.pre]
          rw [List.getElem?_take, if_pos (by omega)] at this
          rw [this]
          show ((l1 ++ X3).set l1.length _)[l1.length + 2]? = _
          rw [List.getElem?_set_ne (by omega), List.getElem?_append_right (by omega), show l1.length + 2 - l1.length = 2 by omega]; exact x2
        let L4 := L3.set (l1.length + 2) ⟨23, (L3.length : Nat), 0, []⟩
        have hl4 : L4.length = l5.length + 4 := by simp only [L4, List.length_set, hl3]
        have he8 : L4[l5.length + 2]? = some ⟨23, 0, 0, []⟩ := by
          show (L3.set (l1.length + 2) _)[l5.length + 2]? = _
          rw [List.getElem?_set_ne (by omega)]
          show (L2 ++ _)[l5.length + 2]? = _
          rw [List.getElem?_append_left (by omega)]
          show ((l5 ++ X3).set l5.length _)[l5.length + 2]? = _
          rw [List.getElem?_set_ne (by omega), List.getElem?_append_right (by omega), show l5.length + 2 - l5.length = 2 by omega]; exact x2
        refine ⟨L4.set (l5.length + 2) ⟨23, (L3.length : Nat), 0, []⟩, fun k => ?_, ?_, ?_⟩
        · refine (dsp k).trans ?_
          rw [if_neg (by decide), if_pos rfl]
          unfold r16_or_2_d
          rw [at0, Option.bind_some, f1, hX, if_pos (by omega), if_pos ⟨by omega, by omega⟩]
          rw [show (((l1.length : Nat) : Int)).toNat = l1.length from rfl, he3]
          dsimp only
          rw [at1, Option.bind_some]
          refine (f5 _).trans ?_
          rw [if_pos (by omega), if_pos ⟨by omega, by omega⟩]
          rw [show (((l5.length : Nat) : Int)).toNat = l5.length from rfl, he6]
          dsimp only
          have w1 : IntKind.wrap .i64 (((l1.length : Nat) : Int) + 2) = ((l1.length + 2 : Nat) : Int) := by rw [wr _ (by omega) (by omega)]; omega
          have w2 : IntKind.wrap .i64 (((l5.length : Nat) : Int) + 2) = ((l5.length + 2 : Nat) : Int) := by rw [wr _ (by omega) (by omega)]; omega
          rw [w1, w2, if_pos (by rw [List.length_set]; simp only [List.length_cons, List.length_nil]; omega)]
          refine (if_pos ⟨by omega, show ((l1.length + 2 : Nat) : Int) < (L3.length : Int) by omega⟩).trans ?_
          · rw [show (((l1.length + 2 : Nat) : Int)).toNat = l1.length + 2 from rfl, show (((l5.length + 2 : Nat) : Int)).toNat = l5.length + 2 from rfl]
            show (match L3[l1.length + 2]? with | some e7 => (if (0 : Int) ≤ ((l5.length + 2 : Nat) : Int) ∧ ((l5.length + 2 : Nat) : Int) < ((L3.set (l1.length + 2) ⟨e7.Op, (L3.length : Nat), e7.N, e7.S⟩).length : Int) then (match (L3.set (l1.length + 2) ⟨e7.Op, (L3.length : Nat), e7.N, e7.S⟩)[l5.length + 2]? with | some e8 => k ((L3.set (l1.length + 2) ⟨e7.Op, (L3.length : Nat), e7.N, e7.S⟩).set (l5.length + 2) ⟨e8.Op, (L3.length : Nat), e8.N, e8.S⟩) | none => none) else none) | none => none) = _
            rw [he7]
            dsimp only
            rw [if_pos ⟨by omega, by rw [List.length_set]; omega⟩]
            show (match L4[l5.length + 2]? with | some e8 => k (L4.set (l5.length + 2) ⟨e8.Op, (L3.length : Nat), e8.N, e8.S⟩) | none => none) = _
            rw [he8]
        · rw [List.length_set, hl4]; show _ = _ + (a.len + b.len + (if (19 : Int) = 18 then 5 else if (19 : Int) = 19 then 7 else 1)); rw [if_neg (by decide), if_pos rfl]; omega
        · have part : ∀ {q : List Ins} {pp : Nat → Prop}, H c q (Tr.two 19 a b).bad pp → H c (q ++ X3) (Tr.two 19 a b).bad (fun i => pp i ∨ i = q.length ∨ i = q.length + 2) := fun h => h.app _ (fun _ h => .inl h) fun j y hy => by
            rw [← hX] at hy
            match j with
            | 0 => cases hy; exact ⟨.inr (.inr rfl), fun _ => .inr (.inl rfl)⟩
            | 1 => cases hy; exact ⟨.inl ⟨by decide, by decide, fun _ => by decide⟩, fun q => by simp only at q; omega⟩
            | 2 => cases hy; exact ⟨.inr (.inl rfl), fun _ => .inr (.inr rfl)⟩
            | j + 3 => simp at hy
          have cl := H1.le
          have k2 := part (H1.weak (p' := fun _ => False) (fun _ h => h) badA)
          have k3 : H c L1 (Tr.two 19 a b).bad (fun i => i = l1.length + 2) := k2.set cl he3 (by omega) fun j h hn => (h.resolve_left id).resolve_left hn
          have k4 := part (k3.comp H5 (bd := (Tr.two 19 a b).bad) id badB)
          have k5 : H c L2 (Tr.two 19 a b).bad (fun i => i = l1.length + 2 ∨ i = l5.length + 2) := k4.set (by omega) he6 (by omega) fun j h hn => h.elim .inl fun h => .inr (h.resolve_left hn)
          have k6 : H c L3 (Tr.two 19 a b).bad (fun i => i = l1.length + 2 ∨ i = l5.length + 2) := k5.app _ (fun _ h => h) fun j y hy => by
            cases j with
            | zero => cases hy; exact ⟨.inl ⟨by decide, by decide, fun _ => by decide⟩, fun q => by simp only at q; omega⟩
            | succ j => simp at hy
          have k7 : H c L4 (Tr.two 19 a b).bad (fun i => i = l5.length + 2) := k6.set (by omega) he7 (by omega) fun j h hn => h.resolve_left hn
          exact k7.set (by omega) he8 (by omega) fun j h hn => hn h
      · rw [if_neg c19] at h3
        obtain ⟨l3, f3, n3, H3⟩ := ihb (m + 1) l1' h5 (by omega) (by omega)
        refine ⟨l3 ++ [⟨kd, 0, 0, []⟩], fun k => ?_, ?_, ?_⟩
        · refine (dsp k).trans ?_
          rw [if_neg c18, if_neg c19]
          unfold r16_expr_2_c17
          rw [at0, Option.bind_some, f1', at1, Option.bind_some, f3, op16 (by omega) (by omega), if_pos (by simp only [List.length_cons, List.length_nil]; omega)]
        · rw [List.length_append]; show l3.length + 1 = _ + (a.len + b.len + (if kd = 18 then 5 else if kd = 19 then 7 else 1)); rw [if_neg c18, if_neg c19]; omega
        · refine H.app ((H1'.weak (p' := fun _ => False) (fun _ h => h) badA).comp H3 (bd := (Tr.two kd a b).bad) id badB) _ (fun _ h => h) fun j y hy => ?_
          cases j with
          | zero =>
            cases hy
            refine ⟨.inl ⟨by simp only; omega, by simp only; omega, fun e => ?_⟩, fun q => by simp only at q; omega⟩
            simp only [Tr.bad, Bool.or_eq_false_iff, decide_eq_false_iff_not] at e
            exact ⟨by simp only; omega, by simp only; omega⟩
          | succ j => simp at hy

theorem c16 (hN : big ≤ N) {V Po Ti : List (List UInt8)} (hV : V.length ≤ 1000) : ∀ (t : Tr) (m : Nat), t.ok → 2 * t.dep < m → t.dep ≤ 1000 → ([] : List Ins).length + t.len ≤ 1000000 →
    ∃ l, (∀ k : List Ins → Option R, (Fam_r16_expr_at N m).r16_expr R t.e.Kind t.e.N t.e.Name t.e.Kids t.e.At V Po Ti [] k = k l) ∧ l.length = ([] : List Ins).length + t.len ∧ H ([] : List Ins) l t.bad (fun _ => False) := by
  have hb : big = 1000000000 := rfl
  have hm : maxRow = 68719476736 := rfl
  intro t
  induction t with
  | leaf kd n s =>
    intro m h1 h2 hd h3
    obtain ⟨m, rfl⟩ : ∃ q, m = q + 1 := ⟨m - 1, by omega⟩
    simp only [Tr.len] at h3
    have h1 : kd = 1 ∨ kd = 2 ∨ kd = 3 := h1
    have fin : ∀ x : Ins, (x.Op = 1 ∨ x.Op = 2 ∨ x.Op = 3) → H ([] : List Ins) (([] : List Ins) ++ [x]) false (fun _ => False) := fun x hx => by
      refine H.app (H.refl ([] : List Ins) false (fun _ => False)) [x] (fun _ h => h) fun j y hy => ?_
      cases j with
      | zero => cases hy; exact ⟨.inl ⟨by omega, by omega, fun _ => ⟨by omega, by omega⟩⟩, fun q => by omega⟩
      | succ j => simp at hy
    rcases h1 with rfl | rfl | rfl
    · refine ⟨([] : List Ins) ++ [⟨1, 0, n, []⟩], fun k => ?_, by simp [Tr.len], fin _ (.inl rfl)⟩
      show r16_expr_d (Fam_r16_expr_at N m) N 1 n s [] 0 V Po Ti [] k = _
      unfold r16_expr_d
      rw [if_pos (by rfl), if_pos (by simp; omega)]
      rfl
    · obtain ⟨x, hx⟩ := place16 (R := R) hN V hV s
      refine ⟨([] : List Ins) ++ [⟨2, x, 0, []⟩], fun k => ?_, by simp [Tr.len], fin _ (.inr (.inl rfl))⟩
      show r16_expr_d (Fam_r16_expr_at N m) N 2 n s [] 0 V Po Ti [] k = _
      unfold r16_expr_d
      rw [if_neg (by decide), if_pos (by rfl), hx, if_pos (by simp; omega)]
      rfl
    · refine ⟨([] : List Ins) ++ [⟨3, 0, 0, []⟩], fun k => ?_, by simp [Tr.len], fin _ (.inr (.inr rfl))⟩
      show r16_expr_d (Fam_r16_expr_at N m) N 3 n s [] 0 V Po Ti [] k = _
      unfold r16_expr_d
      rw [if_neg (by decide), if_neg (by decide), if_pos (by rfl), if_pos (by simp; omega)]
      rfl
  | one kd a iha =>
    intro m h1 h2 hd h3
    obtain ⟨m, rfl⟩ : ∃ q, m = q + 1 := ⟨m - 1, by omega⟩
    obtain ⟨h1, h4⟩ := h1
    simp only [Tr.len, Tr.dep] at h3 h2 hd
    simp only [List.length_nil] at h3
    obtain ⟨l1, f1, n1, H1⟩ := iha m h4 (by omega) (by omega) (by simp only [List.length_nil]; omega)
    simp only [List.length_nil] at n1
    refine ⟨l1 ++ [⟨kd, 0, 0, []⟩], fun k => ?_, by simp only [Tr.len, List.length_append, List.length_cons, List.length_nil]; omega, ?_⟩
    · show r16_expr_d (Fam_r16_expr_at N m) N kd 0 [] [a.e] 0 V Po Ti [] k = _
      have c12 : ∀ (q : Bool) (kp1 : Option R), q = true → r16_expr_c12 (Fam_r16_expr_at N m) N kd q kd 0 [] [a.e] 0 V Po Ti [] (fun (y : List Ins) => k y) kp1 = k (l1 ++ [⟨kd, 0, 0, []⟩]) := by
        intro q kp1 hq
        unfold r16_expr_c12
        rw [if_pos hq, show at? [a.e] 0 = some a.e from rfl, Option.bind_some, f1, op16 (by omega) (by omega), if_pos (by simp only [List.length_cons, List.length_nil]; omega)]
      unfold r16_expr_d
      rw [if_neg (by simp; omega), if_neg (by simp; omega), if_neg (by simp; omega), if_neg (by simp; omega)]
      rcases h1 with rfl | rfl
      · rw [if_pos (by rfl)]; exact c12 _ _ rfl
      · rw [if_neg (by decide)]; exact c12 _ _ rfl
    · refine H.app (H1.weak (fun _ h => h) fun e => ?_) _ (fun _ h => h) fun j y hy => ?_
      · simp only [Tr.bad, Bool.or_eq_false_iff] at e; exact e.2
      · cases j with
        | zero =>
          cases hy
          refine ⟨.inl ⟨by simp only; omega, by simp only; omega, fun e => ?_⟩, fun q => by simp only at q; omega⟩
          simp only [Tr.bad, Bool.or_eq_false_iff, beq_eq_false_iff_ne] at e
          exact ⟨e.1, by simp only; omega⟩
        | succ j => simp at hy
  | two kd a b iha ihb =>
    intro m h1 h2 hd h3
    obtain ⟨⟨h1, h1'⟩, h4, h5⟩ := h1
    simp only [Tr.len, Tr.dep] at h3 h2 hd
    simp only [List.length_nil] at h3
    obtain ⟨m, rfl⟩ : ∃ q, m = q + 2 := ⟨m - 2, by omega⟩
    have badA : (Tr.two kd a b).bad = false → a.bad = false := fun e => by simp only [Tr.bad, Bool.or_eq_false_iff] at e; exact e.2.1
    have badB : (Tr.two kd a b).bad = false → b.bad = false := fun e => by simp only [Tr.bad, Bool.or_eq_false_iff] at e; exact e.2.2
    have hla : ([] : List Ins).length + a.len ≤ 1000000 := by simp only [List.length_nil]; omega
    obtain ⟨l1, f1, n1, H1⟩ := iha m h4 (by omega) (by omega) hla
    simp only [List.length_nil] at n1
    obtain ⟨l1', f1', n1', H1'⟩ := iha (m + 1) h4 (by omega) (by omega) hla
    simp only [List.length_nil] at n1'
    have dsp : ∀ k : List Ins → Option R, (Fam_r16_expr_at N (m + 2)).r16_expr R kd 0 [] [a.e, b.e] 0 V Po Ti [] k = if kd = 18 then r16_and_d (Fam_r16_expr_at N m) N kd 0 [] [a.e, b.e] 0 V Po Ti [] k else if kd = 19 then r16_or_d (Fam_r16_expr_at N m) N kd 0 [] [a.e, b.e] 0 V Po Ti [] k else r16_expr_c17 (Fam_r16_expr_at N (m + 1)) N kd 0 [] [a.e, b.e] 0 V Po Ti [] k := by
      intro k
      show r16_expr_d (Fam_r16_expr_at N (m + 1)) N kd 0 [] [a.e, b.e] 0 V Po Ti [] k = _
      unfold r16_expr_d
      rw [if_neg (by simp; omega), if_neg (by simp; omega), if_neg (by simp; omega), if_neg (by simp; omega), if_neg (by simp; omega)]
      unfold r16_expr_c12
      rw [if_neg (by simp; omega)]
      by_cases c18 : kd = 18
      · subst c18; rfl
      · rw [if_neg (by simpa using c18), if_neg c18]
        by_cases c19 : kd = 19
        · subst c19; rfl
        · rw [if_neg (by simpa using c19), if_neg c19]
    have at0 : at? [a.e, b.e] 0 = some a.e := rfl
    have at1 : at? [a.e, b.e] 1 = some b.e := rfl
    by_cases c18 : kd = 18
    · subst c18
      rw [if_pos rfl] at h3
      have hlb : (l1 ++ [(⟨24, 0, 0, []⟩ : Ins)]).length + b.len ≤ 1000000 := by simp only [List.length_append, List.length_cons, List.length_nil]; omega
      obtain ⟨l3, f3, n3, H3⟩ := c16_2 (R := R) hN (Po := Po) (Ti := Ti) hV b N (l1 ++ [⟨24, 0, 0, []⟩]) h5 (by omega) hlb
      have f3 : ∀ k : List Ins → Option R, r16_expr_2 N b.e.Kind b.e.N b.e.Name b.e.Kids b.e.At V Po Ti [] (l1 ++ [⟨24, 0, 0, []⟩]) k = k l3 := f3
      simp only [List.length_append, List.length_cons, List.length_nil] at n3 hlb
      have he5 : (l3 ++ [(⟨24, 0, 0, []⟩ : Ins), (⟨1, 0, 1, []⟩ : Ins), (⟨23, 0, 0, []⟩ : Ins)])[l1.length]? = some ⟨24, 0, 0, []⟩ := by
        rw [List.getElem?_append_left (by omega)]
        have : (l3.take (l1 ++ [(⟨24, 0, 0, []⟩ : Ins)]).length)[l1.length]? = (l1 ++ [(⟨24, 0, 0, []⟩ : Ins)])[l1.length]? := by rw [H3.pre]
        rw [List.getElem?_take, if_pos (by simp), List.getElem?_append_right (Nat.le_refl _), Nat.sub_self] at this
        exact this
      generalize hX : ([(⟨24, 0, 0, []⟩ : Ins), (⟨1, 0, 1, []⟩ : Ins), (⟨23, 0, 0, []⟩ : Ins)]) = X3 at he5
      have hXl : X3.length = 3 := by rw [← hX]; rfl
      have hL0 : (l3 ++ X3).length = l3.length + 3 := by rw [List.length_append, hXl]
      let L1 := (l3 ++ X3).set l1.length ⟨24, ((l3 ++ X3).length : Nat), 0, []⟩
      have he6 : L1[l3.length]? = some ⟨24, 0, 0, []⟩ := by
        show ((l3 ++ X3).set l1.length _)[l3.length]? = _
        rw [List.getElem?_set_ne (by omega), List.getElem?_append_right (Nat.le_refl _), Nat.sub_self, ← hX]; rfl
      let L2 := L1.set l3.length ⟨24, ((l3 ++ X3).length : Nat), 0, []⟩
      have hl1 : L1.length = l3.length + 3 := by simp only [L1, List.length_set, hL0]
      have hl2 : L2.length = l3.length + 3 := by simp only [L2, List.length_set, hl1]
      let L3 := L2 ++ [(⟨1, 0, 0, []⟩ : Ins)]
      have hl3 : L3.length = l3.length + 4 := by simp only [L3, List.length_append, hl2]; rfl
      have he7 : L3[l3.length + 2]? = some ⟨23, 0, 0, []⟩ := by
        show (L2 ++ _)[l3.length + 2]? = _
        rw [List.getElem?_append_left (by omega)]
        show (L1.set l3.length _)[l3.length + 2]? = _
        rw [List.getElem?_set_ne (by omega)]
        show ((l3 ++ X3).set l1.length _)[l3.length + 2]? = _
        rw [List.getElem?_set_ne (by omega), List.getElem?_append_right (by omega), show l3.length + 2 - l3.length = 2 by omega, ← hX]; rfl
      refine ⟨L3.set (l3.length + 2) ⟨23, (L3.length : Nat), 0, []⟩, fun k => ?_, ?_, ?_⟩
      · refine (dsp k).trans ?_
        rw [if_pos rfl]
        unfold r16_and_d
        rw [at0, Option.bind_some, f1, if_pos (by simp only [List.length_cons, List.length_nil]; omega), at1, Option.bind_some, f3]
        rw [hX, if_pos (by omega), if_pos ⟨by omega, by omega⟩]
        rw [show (((l1.length : Nat) : Int)).toNat = l1.length from rfl, he5]
        dsimp only
        rw [if_pos ⟨by omega, by rw [List.length_set]; omega⟩]
        rw [show (((l3.length : Nat) : Int)).toNat = l3.length from rfl, show ((l3 ++ X3).set l1.length ⟨24, ((l3 ++ X3).length : Nat), 0, []⟩)[l3.length]? = some ⟨24, 0, 0, []⟩ from he6]
        dsimp only
        have w2 : IntKind.wrap .i64 (((l3.length : Nat) : Int) + 2) = ((l3.length + 2 : Nat) : Int) := by rw [wr _ (by omega) (by omega)]; omega
        rw [w2, if_pos (by rw [List.length_set, List.length_set]; simp only [List.length_cons, List.length_nil]; omega)]
        refine (if_pos ⟨by omega, show ((l3.length + 2 : Nat) : Int) < (L3.length : Int) by omega⟩).trans ?_
        · rw [show (((l3.length + 2 : Nat) : Int)).toNat = l3.length + 2 from rfl]
          show (match L3[l3.length + 2]? with | some e7 => k (L3.set (l3.length + 2) ⟨e7.Op, (L3.length : Nat), e7.N, e7.S⟩) | none => none) = _
          rw [he7]
      · rw [List.length_set, hl3]; show _ = _ + (a.len + b.len + (if (18 : Int) = 18 then 5 else _)); rw [if_pos rfl]; simp only [List.length_nil]; omega
      · have k2 : H ([] : List Ins) (l1 ++ [⟨24, 0, 0, []⟩]) a.bad (fun i => i = l1.length) := H1.app _ (fun _ h => h.elim) fun j y hy => by
          cases j with
          | zero => cases hy; exact ⟨.inr (.inr rfl), fun _ => rfl⟩
          | succ j => simp at hy
        have k3 := k2.comp H3 (bd := (Tr.two 18 a b).bad) badA badB
        have k4 : H ([] : List Ins) (l3 ++ X3) (Tr.two 18 a b).bad (fun i => i = l1.length ∨ i = l3.length ∨ i = l3.length + 2) := k3.app _ (fun _ h => .inl h) fun j y hy => by
          rw [← hX] at hy
          match j with
          | 0 => cases hy; exact ⟨.inr (.inr rfl), fun _ => .inr (.inl rfl)⟩
          | 1 => cases hy; exact ⟨.inl ⟨by decide, by decide, fun _ => by decide⟩, fun q => by simp only at q; omega⟩
          | 2 => cases hy; exact ⟨.inr (.inl rfl), fun _ => .inr (.inr rfl)⟩
          | j + 3 => simp at hy
        have cl := H1.le
        have k5 : H ([] : List Ins) L1 (Tr.two 18 a b).bad (fun i => i = l3.length ∨ i = l3.length + 2) := k4.set cl he5 (by omega) fun j h hn => h.resolve_left hn
        have k6 : H ([] : List Ins) L2 (Tr.two 18 a b).bad (fun i => i = l3.length + 2) := k5.set (by omega) he6 (by omega) fun j h hn => h.resolve_left hn
        have k7 : H ([] : List Ins) L3 (Tr.two 18 a b).bad (fun i => i = l3.length + 2) := k6.app _ (fun _ h => h) fun j y hy => by
          cases j with
          | zero => cases hy; exact ⟨.inl ⟨by decide, by decide, fun _ => by decide⟩, fun q => by simp only at q; omega⟩
          | succ j => simp at hy
        exact k7.set (by omega) he7 (by omega) fun j h hn => hn h
    · rw [if_neg c18] at h3
      by_cases c19 : kd = 19
      · subst c19
        rw [if_pos rfl] at h3
        generalize hX : ([(⟨24, 0, 0, []⟩ : Ins), (⟨1, 0, 1, []⟩ : Ins), (⟨23, 0, 0, []⟩ : Ins)]) = X3
        have hXl : X3.length = 3 := by rw [← hX]; rfl
        have x0 : X3[0]? = some ⟨24, 0, 0, []⟩ := by rw [← hX]; rfl
        have x2 : X3[2]? = some ⟨23, 0, 0, []⟩ := by rw [← hX]; rfl
        have hL0 : (l1 ++ X3).length = l1.length + 3 := by rw [List.length_append, hXl]
        have he3 : (l1 ++ X3)[l1.length]? = some ⟨24, 0, 0, []⟩ := by rw [List.getElem?_append_right (Nat.le_refl _), Nat.sub_self]; exact x0
        let L1 := (l1 ++ X3).set l1.length ⟨24, ((l1 ++ X3).length : Nat), 0, []⟩
        have hl1 : L1.length = l1.length + 3 := by simp only [L1, List.length_set, hL0]
        obtain ⟨l5, f5, n5, H5⟩ := c16_2 (R := R) hN (Po := Po) (Ti := Ti) hV b N L1 h5 (by omega) (by omega)
        have f5 : ∀ k : List Ins → Option R, r16_expr_2 N b.e.Kind b.e.N b.e.Name b.e.Kids b.e.At V Po Ti [] L1 k = k l5 := f5
        have hL2 : (l5 ++ X3).length = l5.length + 3 := by rw [List.length_append, hXl]
        have he6 : (l5 ++ X3)[l5.length]? = some ⟨24, 0, 0, []⟩ := by rw [List.getElem?_append_right (Nat.le_refl _), Nat.sub_self]; exact x0
        let L2 := (l5 ++ X3).set l5.length ⟨24, ((l5 ++ X3).length : Nat), 0, []⟩
        have hl2 : L2.length = l5.length + 3 := by simp only [L2, List.length_set, hL2]
        let L3 := L2 ++ [(⟨1, 0, 0, []⟩ : Ins)]
        have hl3 : L3.length = l5.length + 4 := by simp only [L3, List.length_append, hl2]; rfl
        have he7 : L3[l1.length + 2]? = some ⟨23, 0, 0, []⟩ := by
          show (L2 ++ _)[l1.length + 2]? = _
          rw [List.getElem?_append_left (by omega)]
          show ((l5 ++ X3).set l5.length _)[l1.length + 2]? = _
          rw [List.getElem?_set_ne (by omega), List.getElem?_append_left (by omega)]
          have : (l5.take L1.length)[l1.length + 2]? = L1[l1.length + 2]? := by rw [H5.pre]
          rw [List.getElem?_take, if_pos (by omega)] at this
          rw [this]
          show ((l1 ++ X3).set l1.length _)[l1.length + 2]? = _
          rw [List.getElem?_set_ne (by omega), List.getElem?_append_right (by omega), show l1.length + 2 - l1.length = 2 by omega]; exact x2
        let L4 := L3.set (l1.length + 2) ⟨23, (L3.length : Nat), 0, []⟩
        have hl4 : L4.length = l5.length + 4 := by simp only [L4, List.length_set, hl3]
        have he8 : L4[l5.length + 2]? = some ⟨23, 0, 0, []⟩ := by
          show (L3.set (l1.length + 2) _)[l5.length + 2]? = _
          rw [List.getElem?_set_ne (by omega)]
          show (L2 ++ _)[l5.length + 2]? = _
          rw [List.getElem?_append_left (by omega)]
          show ((l5 ++ X3).set l5.length _)[l5.length + 2]? = _
          rw [List.getElem?_set_ne (by omega), List.getElem?_append_right (by omega), show l5.length + 2 - l5.length = 2 by omega]; exact x2
        refine ⟨L4.set (l5.length + 2) ⟨23, (L3.length : Nat), 0, []⟩, fun k => ?_, ?_, ?_⟩
        · refine (dsp k).trans ?_
          rw [if_neg (by decide), if_pos rfl]
          unfold r16_or_d
          rw [at0, Option.bind_some, f1, hX, if_pos (by omega), if_pos ⟨by omega, by omega⟩]
          rw [show (((l1.length : Nat) : Int)).toNat = l1.length from rfl, he3]
          dsimp only
          rw [at1, Option.bind_some]
          refine (f5 _).trans ?_
          rw [if_pos (by omega), if_pos ⟨by omega, by omega⟩]
          rw [show (((l5.length : Nat) : Int)).toNat = l5.length from rfl, he6]
          dsimp only
          have w1 : IntKind.wrap .i64 (((l1.length : Nat) : Int) + 2) = ((l1.length + 2 : Nat) : Int) := by rw [wr _ (by omega) (by omega)]; omega
          have w2 : IntKind.wrap .i64 (((l5.length : Nat) : Int) + 2) = ((l5.length + 2 : Nat) : Int) := by rw [wr _ (by omega) (by omega)]; omega
          rw [w1, w2, if_pos (by rw [List.length_set]; simp only [List.length_cons, List.length_nil]; omega)]
          refine (if_pos ⟨by omega, show ((l1.length + 2 : Nat) : Int) < (L3.length : Int) by omega⟩).trans ?_
          · rw [show (((l1.length + 2 : Nat) : Int)).toNat = l1.length + 2 from rfl, show (((l5.length + 2 : Nat) : Int)).toNat = l5.length + 2 from rfl]
            show (match L3[l1.length + 2]? with | some e7 => (if (0 : Int) ≤ ((l5.length + 2 : Nat) : Int) ∧ ((l5.length + 2 : Nat) : Int) < ((L3.set (l1.length + 2) ⟨e7.Op, (L3.length : Nat), e7.N, e7.S⟩).length : Int) then (match (L3.set (l1.length + 2) ⟨e7.Op, (L3.length : Nat), e7.N, e7.S⟩)[l5.length + 2]? with | some e8 => k ((L3.set (l1.length + 2) ⟨e7.Op, (L3.length : Nat), e7.N, e7.S⟩).set (l5.length + 2) ⟨e8.Op, (L3.length : Nat), e8.N, e8.S⟩) | none => none) else none) | none => none) = _
            rw [he7]
            dsimp only
            rw [if_pos ⟨by omega, by rw [List.length_set]; omega⟩]
            show (match L4[l5.length + 2]? with | some e8 => k (L4.set (l5.length + 2) ⟨e8.Op, (L3.length : Nat), e8.N, e8.S⟩) | none => none) = _
            rw [he8]
        · rw [List.length_set, hl4]; show _ = _ + (a.len + b.len + (if (19 : Int) = 18 then 5 else if (19 : Int) = 19 then 7 else 1)); rw [if_neg (by decide), if_pos rfl]; simp only [List.length_nil]; omega
        · have part : ∀ {q : List Ins} {pp : Nat → Prop}, H ([] : List Ins) q (Tr.two 19 a b).bad pp → H ([] : List Ins) (q ++ X3) (Tr.two 19 a b).bad (fun i => pp i ∨ i = q.length ∨ i = q.length + 2) := fun h => h.app _ (fun _ h => .inl h) fun j y hy => by
            rw [← hX] at hy
            match j with
            | 0 => cases hy; exact ⟨.inr (.inr rfl), fun _ => .inr (.inl rfl)⟩
            | 1 => cases hy; exact ⟨.inl ⟨by decide, by decide, fun _ => by decide⟩, fun q => by simp only at q; omega⟩
            | 2 => cases hy; exact ⟨.inr (.inl rfl), fun _ => .inr (.inr rfl)⟩
            | j + 3 => simp at hy
          have cl := H1.le
          have k2 := part (H1.weak (p' := fun _ => False) (fun _ h => h) badA)
          have k3 : H ([] : List Ins) L1 (Tr.two 19 a b).bad (fun i => i = l1.length + 2) := k2.set cl he3 (by omega) fun j h hn => (h.resolve_left id).resolve_left hn
          have k4 := part (k3.comp H5 (bd := (Tr.two 19 a b).bad) id badB)
          have k5 : H ([] : List Ins) L2 (Tr.two 19 a b).bad (fun i => i = l1.length + 2 ∨ i = l5.length + 2) := k4.set (by omega) he6 (by omega) fun j h hn => h.elim .inl fun h => .inr (h.resolve_left hn)
          have k6 : H ([] : List Ins) L3 (Tr.two 19 a b).bad (fun i => i = l1.length + 2 ∨ i = l5.length + 2) := k5.app _ (fun _ h => h) fun j y hy => by
            cases j with
            | zero => cases hy; exact ⟨.inl ⟨by decide, by decide, fun _ => by decide⟩, fun q => by simp only at q; omega⟩
            | succ j => simp at hy
          have k7 : H ([] : List Ins) L4 (Tr.two 19 a b).bad (fun i => i = l5.length + 2) := k6.set (by omega) he7 (by omega) fun j h hn => h.resolve_left hn
          exact k7.set (by omega) he8 (by omega) fun j h hn => hn h
      · rw [if_neg c19] at h3
        obtain ⟨l3, f3, n3, H3⟩ := c16_2 (R := R) hN (Po := Po) (Ti := Ti) hV b N l1' h5 (by omega) (by omega)
        have f3 : ∀ k : List Ins → Option R, r16_expr_2 N b.e.Kind b.e.N b.e.Name b.e.Kids b.e.At V Po Ti [] l1' k = k l3 := f3
        refine ⟨l3 ++ [⟨kd, 0, 0, []⟩], fun k => ?_, ?_, ?_⟩
        · refine (dsp k).trans ?_
          rw [if_neg c18, if_neg c19]
          unfold r16_expr_c17
          rw [at0, Option.bind_some, f1', at1, Option.bind_some, f3, op16 (by omega) (by omega), if_pos (by simp only [List.length_cons, List.length_nil]; omega)]
        · rw [List.length_append]; show l3.length + 1 = _ + (a.len + b.len + (if kd = 18 then 5 else if kd = 19 then 7 else 1)); rw [if_neg c18, if_neg c19]; simp only [List.length_nil]; omega
        · refine H.app ((H1'.weak (p' := fun _ => False) (fun _ h => h) badA).comp H3 (bd := (Tr.two kd a b).bad) id badB) _ (fun _ h => h) fun j y hy => ?_
          cases j with
          | zero =>
            cases hy
            refine ⟨.inl ⟨by simp only; omega, by simp only; omega, fun e => ?_⟩, fun q => by simp only at q; omega⟩
            simp only [Tr.bad, Bool.or_eq_false_iff, decide_eq_false_iff_not] at e
            exact ⟨by simp only; omega, by simp only; omega⟩
          | succ j => simp at hy
end
section
variable {R : Type} {N : Nat} {V Po Ti : List (List UInt8)} {No : List Node}
theorem put2 {l : List Ins} (hl : l.length ≤ 2000000) (op A n : Int) (s : List UInt8) (k : Int → List Ins → Option R) : code_writer_put_2 N op A n s V Po Ti No l k = k (l.length : Int) (l ++ [⟨op, A, n, s⟩]) := by
  have hm : maxRow = 68719476736 := rfl
  unfold code_writer_put_2
  rw [if_pos (by simp only [List.length_cons, List.length_nil]; omega), List.length_append]
  rw [show IntKind.wrap .i64 (((l.length + [(⟨op, A, n, s⟩ : Ins)].length : Nat) : Int) - 1) = (l.length : Int) by
    rw [show [(⟨op, A, n, s⟩ : Ins)].length = 1 from rfl, wr _ (by omega) (by omega)]; omega]
theorem push2 {l : List Ins} (hl : l.length ≤ 2000000) (n : Int) (k : List Ins → Option R) : code_writer_push_2 N n V Po Ti No l k = k (l ++ [⟨1, 0, n, []⟩]) := by
  unfold code_writer_push_2
  rw [put2 hl]
theorem index2 (hN : big ≤ N) (l : List (List UInt8)) (hl : l.length ≤ 1000) (s : List UInt8) : ∃ x, ∀ k : Int → Option R, slices_Index_string N l s k = k x := by
  have hb : big = 1000000000 := rfl
  have key : ∀ (n i : Nat), l.length < n + i → i ≤ l.length → ∃ x : Int, ∀ k : Int → Option R, slices_Index_string_l0 N l s (l.length : Nat) (k (-1)) k n (i : Int) = k x := by
    intro n
    induction n with
    | zero => intro i h1 h2; omega
    | succ n ih =>
      intro i h1 h2
      simp only [slices_Index_string_l0, slices_Index_string_l0_b]
      by_cases hi : i < l.length
      · obtain ⟨x, hx, _⟩ := drop_cons hi
        by_cases he : s = x
        · exact ⟨i, fun k => by rw [if_pos (by simpa using hi), at_nat, hx, Option.bind_some, if_pos (by simpa using he)]⟩
        · obtain ⟨y, hy⟩ := ih (i + 1) (by omega) (by omega)
          exact ⟨y, fun k => by rw [if_pos (by simpa using hi), at_nat, hx, Option.bind_some, if_neg (by simpa using he), wr _ (by omega) (by omega)]; exact hy k⟩
      · exact ⟨-1, fun k => by rw [if_neg (by simpa using hi)]⟩
  obtain ⟨x, hx⟩ := key N 0 (by omega) (by omega)
  exact ⟨x, fun k => hx k⟩
theorem cop {kd : Int} (h1 : 5 ≤ kd) (h2 : kd ≤ 17) (k : Int → Option R) : code_op N kd k = k kd := by
  unfold code_op
  by_cases c5 : kd = 5; · subst c5; simp
  by_cases c6 : kd = 6; · subst c6; simp
  by_cases c7 : kd = 7; · subst c7; simp
  by_cases c8 : kd = 8; · subst c8; simp
  by_cases c9 : kd = 9; · subst c9; simp
  by_cases c10 : kd = 10; · subst c10; simp
  by_cases c11 : kd = 11; · subst c11; simp
  by_cases c12 : kd = 12; · subst c12; simp
  by_cases c13 : kd = 13; · subst c13; simp
  by_cases c14 : kd = 14; · subst c14; simp
  by_cases c15 : kd = 15; · subst c15; simp
  by_cases c16 : kd = 16; · subst c16; simp
  have : kd = 17 := by omega
  subst this; simp
end
section
variable {R : Type} {N : Nat} {V Po Ti : List (List UInt8)} {No : List Node}
/-! the most -/
end
end Ef
