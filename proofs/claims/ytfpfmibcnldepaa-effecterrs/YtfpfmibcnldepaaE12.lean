/- A run of a code that jumps forward alone; EffectErrs in plain words. -/
import Derived.Test.YtfpfmibcnldepaaE11
import Derived.Test.YtfpfmibcnldepaaE6x1
set_option maxRecDepth 100000
set_option linter.unusedVariables false
set_option linter.unusedSimpArgs false
namespace Ef
open Go TE Go.Proofs
section
variable {R : Type} {N : Nat} {P : R → Prop}
theorem rput {row rounds Vars : List Int} {Ra : List Msg} {Fx : List Effc} {n v co cd ag at_ : Int} (h : row.length ≤ 1000000) (k : List Int → Option R) : r17_running_put_4 N n v co cd ag at_ Vars Ra Fx row rounds k = k (row ++ [n]) := by
  have hm : maxRow = 68719476736 := rfl
  unfold r17_running_put_4
  rw [if_pos (by simp only [List.length_nil]; omega), if_pos (by simp only [List.length_append, List.length_cons, List.length_nil]; omega)]
  rfl
theorem rtake {row rounds Vars : List Int} {Ra : List Msg} {Fx : List Effc} {v co cd ag at_ : Int} (h : row.length ≤ 1000000) : ∃ x row', row'.length ≤ row.length ∧ ∀ k : Int → List Int → Option R, r17_running_take_4 N v co cd ag at_ Vars Ra Fx row rounds k = k x row' := by
  unfold r17_running_take_4
  by_cases h0 : row.length = 0
  · exact ⟨0, row, Nat.le_refl _, fun k => by rw [if_pos (by simpa using h0)]⟩
  · have w : IntKind.wrap .i64 (((row.length : Nat) : Int) - 1) = ((row.length - 1 : Nat) : Int) := by rw [wr _ (by omega) (by omega)]; omega
    rw [w]
    have hx : row[((row.length - 1 : Nat) : Int).toNat]? = some (row[row.length - 1]'(by omega)) := List.getElem?_eq_getElem (by omega)
    refine ⟨row[row.length - 1]'(by omega), row.take (row.length - 1), by rw [List.length_take]; omega, fun k => ?_⟩
    rw [if_neg (by simpa using h0), if_pos ⟨by omega, by omega⟩, hx]
    dsimp only
    have c1 : (0 : Int) ≤ ((row.length - 1 : Nat) : Int) := by omega
    have c2 : ((row.length - 1 : Nat) : Int) ≤ ((row.length : Nat) : Int) := by omega
    rw [if_pos (And.intro (Int.le_refl 0) (And.intro c1 c2))]
    rfl
theorem ifB_some (q w x y : Bool) : ∃ b, ifB q w (some x) (some y) = some b := by
  unfold ifB
  split <;> exact ⟨_, rfl⟩
theorem rsub (a b : Int) : ∃ v c, ∀ k : Int → Int → Option R, r1_Sub N a b k = k v c := by
  unfold r1_Sub
  obtain ⟨b1, h1⟩ := ifB_some (decide (b < 0)) true (decide (a > (IntKind.wrap .i64 (9223372036854775807 + b)))) false
  obtain ⟨b2, h2⟩ := ifB_some (decide (b > 0)) true (decide (a < (IntKind.wrap .i64 ((-9223372036854775808) + b)))) false
  obtain ⟨b3, h3⟩ := ifB_some b1 false b2 true
  cases b3 with
  | true => exact ⟨0, 2, fun k => by rw [h1, Option.bind_some, h2, Option.bind_some, h3, Option.bind_some, if_pos rfl]⟩
  | false => exact ⟨_, 0, fun k => by rw [h1, Option.bind_some, h2, Option.bind_some, h3, Option.bind_some, if_neg (by simp)]⟩
theorem radd (a b : Int) : ∃ v c, ∀ k : Int → Int → Option R, r1_Add N a b k = k v c := by
  unfold r1_Add
  obtain ⟨b1, h1⟩ := ifB_some (decide (b > 0)) true (decide (a > (IntKind.wrap .i64 (9223372036854775807 - b)))) false
  obtain ⟨b2, h2⟩ := ifB_some (decide (b < 0)) true (decide (a < (IntKind.wrap .i64 ((-9223372036854775808) - b)))) false
  obtain ⟨b3, h3⟩ := ifB_some b1 false b2 true
  cases b3 with
  | true => exact ⟨0, 2, fun k => by rw [h1, Option.bind_some, h2, Option.bind_some, h3, Option.bind_some, if_pos rfl]⟩
  | false => exact ⟨_, 0, fun k => by rw [h1, Option.bind_some, h2, Option.bind_some, h3, Option.bind_some, if_neg (by simp)]⟩
theorem rmul (a b : Int) : ∃ v c, ∀ k : Int → Int → Option R, r1_Mul N a b k = k v c := by
  unfold r1_Mul
  obtain ⟨b1, h1⟩ := ifB_some (a == 0) false (b == 0) true
  simp only [h1, Option.bind_some]
  cases b1 with
  | true => exact ⟨0, 0, fun k => by rw [if_pos rfl]⟩
  | false =>
    have hb0 : b ≠ 0 := by
      rintro rfl
      unfold ifB at h1
      split at h1 <;> simp at h1
    obtain ⟨b2, h2⟩ := ifB_some (a == (-1)) true (b == (-9223372036854775808)) false
    obtain ⟨b3, h3⟩ := ifB_some (b == (-1)) true (a == (-9223372036854775808)) false
    obtain ⟨b4, h4⟩ := ifB_some b2 false b3 true
    simp only [h2, h3, h4, Option.bind_some]
    cases b4 with
    | true => exact ⟨0, 2, fun k => by rw [if_neg (by simp), if_pos rfl]⟩
    | false =>
      by_cases hq : ((IntKind.wrap .i64 (Int.tdiv (IntKind.wrap .i64 (a * b)) b)) != a) = true
      · exact ⟨0, 2, fun k => by rw [if_neg (by simp), if_neg (by simp), if_neg hb0, if_pos hq]⟩
      · exact ⟨_, 0, fun k => by rw [if_neg (by simp), if_neg (by simp), if_neg hb0, if_neg hq]⟩
theorem rdiv (a b : Int) : ∃ v c, ∀ k : Int → Int → Option R, r1_Div N a b k = k v c := by
  unfold r1_Div
  by_cases h0 : b = 0
  · exact ⟨0, 3, fun k => by rw [if_pos (by simpa using h0)]⟩
  · obtain ⟨b1, h1⟩ := ifB_some (b == (-1)) true (a == (-9223372036854775808)) false
    simp only [h1, Option.bind_some]
    cases b1 with
    | true => exact ⟨0, 2, fun k => by rw [if_neg (by simpa using h0), if_pos rfl]⟩
    | false => exact ⟨_, 0, fun k => by rw [if_neg (by simpa using h0), if_neg (by simp), if_neg h0]⟩
theorem rmod (a b : Int) : ∃ v c, ∀ k : Int → Int → Option R, r1_Mod N a b k = k v c := by
  unfold r1_Mod
  by_cases h0 : b = 0
  · exact ⟨0, 3, fun k => by rw [if_pos (by simpa using h0)]⟩
  · by_cases h1 : (b == (-1)) = true
    · exact ⟨0, 0, fun k => by rw [if_neg (by simpa using h0), if_pos h1]⟩
    · exact ⟨_, 0, fun k => by rw [if_neg (by simpa using h0), if_neg h1, if_neg h0]⟩
theorem rtruth (b : Bool) : ∃ v, ∀ k : Int → Option R, r17_truth N b k = k v := by
  unfold r17_truth
  cases b with
  | true => exact ⟨1, fun k => if_pos rfl⟩
  | false => exact ⟨0, fun k => if_neg (by simp)⟩
theorem rtwo (op a b : Int) : ∃ v c, (¬ (7 ≤ op ∧ op ≤ 11) → c = 0) ∧ ∀ k : Int → Int → Option R, r17_two N op a b k = k v c := by
  unfold r17_two
  by_cases c7 : op = 7
  · subst c7; obtain ⟨v, c, h⟩ := rmul (R := R) (N := N) a b; exact ⟨v, c, fun q => absurd q (by omega), fun k => by rw [if_pos (by rfl), h]⟩
  by_cases c8 : op = 8
  · subst c8; obtain ⟨v, c, h⟩ := rdiv (R := R) (N := N) a b; exact ⟨v, c, fun q => absurd q (by omega), fun k => by rw [if_neg (by decide), if_pos (by rfl), h]⟩
  by_cases c9 : op = 9
  · subst c9; obtain ⟨v, c, h⟩ := rmod (R := R) (N := N) a b; exact ⟨v, c, fun q => absurd q (by omega), fun k => by rw [if_neg (by decide), if_neg (by decide), if_pos (by rfl), h]⟩
  by_cases c10 : op = 10
  · subst c10; obtain ⟨v, c, h⟩ := radd (R := R) (N := N) a b; exact ⟨v, c, fun q => absurd q (by omega), fun k => by rw [if_neg (by decide), if_neg (by decide), if_neg (by decide), if_pos (by rfl), h]⟩
  by_cases c11 : op = 11
  · subst c11; obtain ⟨v, c, h⟩ := rsub (R := R) (N := N) a b; exact ⟨v, c, fun q => absurd q (by omega), fun k => by rw [if_neg (by decide), if_neg (by decide), if_neg (by decide), if_neg (by decide), if_pos (by rfl), h]⟩
  have pre : ∀ z w1 w2 w3 w4 w5 : Option R, (if (op == 7) = true then w1 else if (op == 8) = true then w2 else if (op == 9) = true then w3 else if (op == 10) = true then w4 else if (op == 11) = true then w5 else z) = z := fun z w1 w2 w3 w4 w5 => by
    rw [if_neg (by simpa using c7), if_neg (by simpa using c8), if_neg (by simpa using c9), if_neg (by simpa using c10), if_neg (by simpa using c11)]
  simp only [pre]
  by_cases c12 : op = 12
  · obtain ⟨v, h⟩ := rtruth (R := R) (N := N) (decide (a < b)); exact ⟨v, 0, fun _ => rfl, fun k => by rw [if_pos (by simpa using c12), h]⟩
  by_cases c13 : op = 13
  · obtain ⟨v, h⟩ := rtruth (R := R) (N := N) (decide (a ≤ b)); exact ⟨v, 0, fun _ => rfl, fun k => by rw [if_neg (by simpa using c12), if_pos (by simpa using c13), h]⟩
  by_cases c14 : op = 14
  · obtain ⟨v, h⟩ := rtruth (R := R) (N := N) (decide (a > b)); exact ⟨v, 0, fun _ => rfl, fun k => by rw [if_neg (by simpa using c12), if_neg (by simpa using c13), if_pos (by simpa using c14), h]⟩
  by_cases c15 : op = 15
  · obtain ⟨v, h⟩ := rtruth (R := R) (N := N) (decide (a ≥ b)); exact ⟨v, 0, fun _ => rfl, fun k => by rw [if_neg (by simpa using c12), if_neg (by simpa using c13), if_neg (by simpa using c14), if_pos (by simpa using c15), h]⟩
  by_cases c16 : op = 16
  · obtain ⟨v, h⟩ := rtruth (R := R) (N := N) (a == b); exact ⟨v, 0, fun _ => rfl, fun k => by rw [if_neg (by simpa using c12), if_neg (by simpa using c13), if_neg (by simpa using c14), if_neg (by simpa using c15), if_pos (by simpa using c16), h]⟩
  obtain ⟨v, h⟩ := rtruth (R := R) (N := N) (a != b)
  exact ⟨v, 0, fun _ => rfl, fun k => by rw [if_neg (by simpa using c12), if_neg (by simpa using c13), if_neg (by simpa using c14), if_neg (by simpa using c15), if_neg (by simpa using c16), h]⟩
theorem reckon_ok {row rounds Vars : List Int} {Ra : List Msg} {Fx : List Effc} {v co cd ag at_ Op A n : Int} {s : List UInt8} (hN : 1 ≤ N) (h : row.length + 1 ≤ 1000000) (h1 : 1 ≤ Op) (h2 : Op ≤ 17) (k0 k1 : Int → List Int → Option R)
    (hk0 : ∀ c row', row'.length ≤ row.length + 1 → (Op ≠ 5 → ¬ (7 ≤ Op ∧ Op ≤ 11) → c = 0) → Ok P (k0 c row')) (hk1 : ∀ c row', row'.length ≤ row.length + 1 → (Op ≠ 5 → ¬ (7 ≤ Op ∧ Op ≤ 11) → c = 0) → Ok P (k1 c row')) :
    Ok P (r17_running_reckon_4 N Op A n s v co cd ag at_ Vars Ra Fx row rounds k0 k1) := by
  have ap : ∀ (r : List Int) (x : Int), r.length ≤ row.length → (r ++ [x]).length ≤ row.length + 1 := fun r x h => by rw [List.length_append, List.length_cons, List.length_nil]; omega
  unfold r17_running_reckon_4
  by_cases c1 : Op = 1
  · rw [if_pos (by simpa using c1), rput (by omega)]; exact hk0 _ _ (ap _ _ (Nat.le_refl _)) fun _ _ => rfl
  rw [if_neg (by simpa using c1)]
  by_cases c2 : Op = 2
  · rw [if_pos (by simpa using c2)]
    by_cases hA : 0 ≤ A
    · by_cases hB : A < (Vars.length : Int)
      · have hx : Vars[A.toNat]? = some (Vars[A.toNat]'(by omega)) := List.getElem?_eq_getElem (by omega)
        rw [show decide (A ≥ 0) = true by simpa using hA, show decide (A < ((Vars.length : Nat) : Int)) = true by simpa using hB, ifB_tt, Option.bind_some, if_pos rfl, if_pos ⟨hA, hB⟩, hx]
        dsimp only
        unfold r17_running_reckon_4_c13
        rw [rput (by omega)]; exact hk0 _ _ (ap _ _ (Nat.le_refl _)) fun _ _ => rfl
      · rw [show decide (A ≥ 0) = true by simpa using hA, show decide (A < ((Vars.length : Nat) : Int)) = false by simpa using hB, ifB_tt, Option.bind_some, if_neg (by simp)]
        unfold r17_running_reckon_4_c13
        rw [rput (by omega)]; exact hk0 _ _ (ap _ _ (Nat.le_refl _)) fun _ _ => rfl
    · rw [show decide (A ≥ 0) = false by simpa using hA, ifB_ft, Option.bind_some, if_neg (by simp)]
      unfold r17_running_reckon_4_c13
      rw [rput (by omega)]; exact hk0 _ _ (ap _ _ (Nat.le_refl _)) fun _ _ => rfl
  rw [if_neg (by simpa using c2)]
  by_cases c3 : Op = 3
  · rw [if_pos (by simpa using c3), rput (by omega)]; exact hk0 _ _ (ap _ _ (Nat.le_refl _)) fun _ _ => rfl
  rw [if_neg (by simpa using c3)]
  by_cases c4 : Op = 4
  · rw [if_pos (by simpa using c4)]
    obtain ⟨q, rfl⟩ : ∃ q, N = q + 1 := ⟨N - 1, by omega⟩
    unfold r3_Has
    simp only [r3_Has_l0, r3_Has_l0_b]
    rw [if_neg (by decide)]
    obtain ⟨z, hz⟩ := rtruth (R := R) (N := q + 1) false
    rw [hz, rput (by omega)]; exact hk0 _ _ (ap _ _ (Nat.le_refl _)) fun _ _ => rfl
  rw [if_neg (by simpa using c4)]
  obtain ⟨x, r2, e2, f2⟩ := rtake (R := R) (N := N) (row := row) (rounds := rounds) (Vars := Vars) (Ra := Ra) (Fx := Fx) (v := v) (co := co) (cd := cd) (ag := ag) (at_ := at_) (by omega)
  by_cases c6 : Op = 6
  · rw [if_pos (by simpa using c6), f2]
    obtain ⟨z, hz⟩ := rtruth (R := R) (N := N) (x == 0)
    rw [hz, rput (by omega)]; exact hk1 _ _ (ap _ _ e2) fun _ _ => rfl
  rw [if_neg (by simpa using c6)]
  by_cases c5 : Op = 5
  · rw [if_pos (by simpa using c5), f2]
    obtain ⟨z, c, hz⟩ := rsub (R := R) (N := N) 0 x
    unfold r1_Neg
    rw [hz]
    dsimp only
    rw [rput (by omega)]; exact hk1 _ _ (ap _ _ e2) fun q => absurd c5 q
  rw [if_neg (by simpa using c5), f2]
  obtain ⟨y, r3, e3, f3⟩ := rtake (R := R) (N := N) (row := r2) (rounds := rounds) (Vars := Vars) (Ra := Ra) (Fx := Fx) (v := v) (co := co) (cd := cd) (ag := ag) (at_ := at_) (by omega)
  obtain ⟨z, c, hc, hz⟩ := rtwo (R := R) (N := N) Op y x
  rw [f3, hz, rput (by omega)]; exact hk1 _ _ (ap _ _ (by omega)) fun _ q => hc q
theorem run_loop (hN : 1 ≤ N) {c : List Ins} {bd : Bool} (hH : H [] c bd (fun _ => False)) (hl : c.length ≤ 100000) {fuel v3 v4 v5 r6 r8 r9 : Int} {kp0 : Int → Int → List Int → List Msg → List Effc → List Int → List Int → Option R} {kp1 : Int → Int → List Int → List Msg → List Effc → Option R}
    (hk0 : ∀ co at_ Vars Ra Fx row rounds, row.length ≤ 100000 → Ok P (kp0 co at_ Vars Ra Fx row rounds)) (hk1 : ∀ co cd Vars Ra Fx, ¬ (bd = false ∧ (c.length : Int) ≤ fuel) → Ok P (kp1 co cd Vars Ra Fx)) :
    ∀ (n : Nat) (co at_ : Int) (Vars : List Int) (Ra : List Msg) (Fx : List Effc) (row rounds : List Int), 0 ≤ co → co ≤ at_ → co ≤ c.length → (row.length : Int) ≤ co → (c.length : Int) < n + at_ → 0 < n → Ok P (r17_Run_l0 N c fuel v3 v4 v5 r6 r8 r9 kp0 kp1 n co at_ Vars Ra Fx row rounds) := by
  intro n
  induction n with
  | zero => intro co at_ Vars Ra Fx row rounds _ _ _ _ _ h; omega
  | succ n ih =>
    intro co at_ Vars Ra Fx row rounds g0 g1 g2 g3 g4 _
    simp only [r17_Run_l0, r17_Run_l0_b]
    by_cases hin : at_ < (c.length : Int)
    · obtain ⟨i, rfl⟩ : ∃ i : Nat, at_ = (i : Int) := ⟨at_.toNat, by omega⟩
      obtain ⟨x, hx, _⟩ := drop_cons (l := c) (i := i) (by omega)
      obtain ⟨hop, hj⟩ := hH.own i x (by simp) hx
      rw [show decide ((i : Int) ≥ 0) = true by simp, show decide ((i : Int) < ((c.length : Nat) : Int)) = true by simpa using hin, ifB_tt, Option.bind_some, if_pos rfl]
      by_cases hfu : co ≥ (if (1048576 < fuel) then 1048576 else fuel)
      · rw [if_pos (by simpa using hfu)]
        refine hk1 _ _ _ _ _ fun q => ?_
        have := q.2
        split at hfu <;> omega
      · rw [if_neg (by simpa using hfu), at_nat, hx, Option.bind_some, wr (co + 1) (by omega) (by omega), wr ((i : Int) + 1) (by omega) (by omega)]
        have step : ∀ (a' : Int) (row' rounds' : List Int), (i : Int) < a' → row'.length ≤ row.length + 1 → Ok P (r17_Run_l0 N c fuel v3 v4 v5 r6 r8 r9 kp0 kp1 n (co + 1) a' Vars Ra Fx row' rounds') := by
          intro a' row' rounds' ha hr
          by_cases hn : n = 0
          · exfalso; omega
          · exact ih _ _ _ _ _ _ _ (by omega) (by omega) (by omega) (by omega) (by omega) (by omega)
        rcases hop with ⟨o1, o2, o3⟩ | hop
        · rw [if_pos (by simp; omega)]
          have both : ∀ cd row', row'.length ≤ row.length + 1 → (x.Op ≠ 5 → ¬ (7 ≤ x.Op ∧ x.Op ≤ 11) → cd = 0) → Ok P (r17_Run_c15 N c fuel cd v3 v4 v5 r6 (co + 1) r8 r9 ((i : Int) + 1) Vars Ra Fx row' rounds (kp1 (co + 1) cd Vars Ra Fx) (r17_Run_l0 N c fuel v3 v4 v5 r6 r8 r9 kp0 kp1 n (co + 1) ((i : Int) + 1) Vars Ra Fx row' rounds)) := by
            intro cd row' hr hc
            unfold r17_Run_c15
            by_cases h0 : cd = 0
            · rw [if_neg (by simpa using h0)]; exact step _ _ _ (by omega) hr
            · rw [if_pos (by simpa using h0)]
              refine hk1 _ _ _ _ _ fun q => h0 ?_
              exact hc (o3 q.1).1 (o3 q.1).2
          exact reckon_ok hN (by omega) o1 o2 _ _ both both
        · rw [if_neg (by simp; omega), if_neg (by simp; omega)]
          unfold r17_running_move_3
          have hA := (hj (by omega)).resolve_left id
          rcases hop with hop | hop
          · rw [if_pos (by simpa using hop)]
            unfold r17_Run_c15
            dsimp only
            rw [if_neg (by decide)]
            exact step _ _ _ hA (by omega)
          · rw [if_neg (by simp; omega), if_pos (by simpa using hop)]
            obtain ⟨y, r2, e2, f2⟩ := rtake (R := R) (N := N) (row := row) (rounds := rounds) (Vars := Vars) (Ra := Ra) (Fx := Fx) (v := r6) (co := co + 1) (cd := r8) (ag := r9) (at_ := (i : Int) + 1) (by omega)
            rw [f2]
            unfold r17_Run_c15
            dsimp only
            split
            · rw [if_neg (by decide)]; exact step _ _ _ hA (by omega)
            · rw [if_neg (by decide)]; exact step _ _ _ (by omega) (by omega)
    · have : decide (at_ < ((c.length : Nat) : Int)) = false := by simpa using hin
      rw [this]
      have e : ifB (decide (at_ ≥ 0)) true (some false) (some false) = some false := by unfold ifB; split <;> rfl
      rw [e, Option.bind_some, if_neg (by simp)]
      exact hk0 _ _ _ _ _ _ _ (by omega)
theorem run_ok (hN : big ≤ N) {c : List Ins} {bd : Bool} (hH : H [] c bd (fun _ => False)) (hl : c.length ≤ 100000) {Vars : List Int} (hV : Vars.length ≤ 1000) {ag fuel : Int} (k : Int → List Int → List Msg → List Effc → Int → Int → Option R)
    (hk : ∀ v Vs Ra Fx co cd, (bd = false ∧ (c.length : Int) ≤ fuel → cd = 0) → Ok P (k v Vs Ra Fx co cd)) : Ok P (r17_Run N c Vars ag fuel k) := by
  have hb : big = 1000000000 := rfl
  have hm : maxRow = 68719476736 := rfl
  unfold r17_Run
  rw [if_pos (by simp only [List.length_nil]; omega)]
  refine run_loop (by omega) hH hl (fun co at_ Vs Ra Fx row rounds hr => ?_) (fun co cd Vs Ra Fx q => hk _ _ _ _ _ _ fun q' => absurd q' q) N 0 0 _ _ _ _ _ (by omega) (by omega) (by omega) (by simp) (by omega) (by omega)
  by_cases h0 : row.length = 0
  · rw [if_neg (by simpa using h0)]; exact hk _ _ _ _ _ _ fun _ => rfl
  · have w : IntKind.wrap .i64 (((row.length : Nat) : Int) - 1) = ((row.length - 1 : Nat) : Int) := by rw [wr _ (by omega) (by omega)]; omega
    have hx : row[((row.length - 1 : Nat) : Int).toNat]? = some (row[row.length - 1]'(by omega)) := List.getElem?_eq_getElem (by omega)
    rw [if_pos (by simp; omega), w, if_pos ⟨by omega, by omega⟩, hx]
    exact hk _ _ _ _ _ _ fun _ => rfl
theorem H.nl {c : List Ins} {bd : Bool} (h : H [] c bd (fun _ => False)) : NL c := fun i x hx => by
  rcases (h.own i x (by simp) hx).1 with ⟨h1, h2, _⟩ | h | h <;> omega
theorem errs_law (hN : big ≤ N) (v : List Int) (fuel x y arg : Int) (k : Bool → Option R) (r : R) (hk : k true = some r) : l30_EffectErrs N v fuel x y arg k = some r := by
  have hb : big = 1000000000 := rfl
  have kn : ∀ {Q : Type} (k : Bool → Option Q), (l30_EffectErrs_inst N).l30_known Q k = k true := fun _ => rfl
  have key : Ok (fun z => z = r) (l30_EffectErrs N v fuel x y arg k) := by
    unfold l30_EffectErrs l30_EffectErrs_d
    by_cases hv : v.length > 100
    · rw [if_pos (by simp; omega), kn]; exact ⟨r, hk, rfl⟩
    rw [if_neg (by simp; omega)]
    have e1 := expr37 (P := fun z => z = r) (N := N) (V := [[120], [121]]) (Po := [[112], [113]]) (Ti := [[116]]) (by simp) (by simp) (L := v) (by omega) 4 N 0
    refine e1 _ (by omega) (by omega) (by omega) (by omega) fun t At' t1 t2 _ _ => ?_
    have hlen : t.len ≤ 32768 := by
      have h1 := t.len_le
      have h2 : 8 ^ (t.dep + 1) ≤ 8 ^ 5 := Nat.pow_le_pow_right (by omega) (by omega)
      have h3 : 8 ^ 5 = 32768 := by decide
      omega
    obtain ⟨q, q0, q1, hq⟩ := place_ok (R := R) (N := N) (v := fuel) (n := 60) (by omega) (by omega) (fun (r8 : Int) =>
      (l30_EffectErrs_inst N).effect_Errs R t.e.Kind t.e.N t.e.Name t.e.Kids t.e.At ([[120], [121]]) ([[112], [113]]) ([[116]]) ([] : List Node) r8 (fun (r9 : Bool) =>
      l30_EffectErrs_c7 (l30_EffectErrs_inst N) N x y arg r8 r9 ([[120], [121]]) ([[112], [113]]) ([[116]]) ([] : List Node) t.e.Kind t.e.N t.e.Name t.e.Kids t.e.At (fun (y36 : Bool) => k y36)))
    refine Eq.mpr (congrArg (Ok _) hq) ?_
    obtain ⟨lc, fc, nc, gc⟩ := cw (R := Bool) hN (V := [[120], [121]]) (Po := [[112], [113]]) (Ti := [[116]]) (by simp) t N t1 (by omega) (by omega) (by omega)
    obtain ⟨lr, fr, nr, gr⟩ := c16 (R := R) hN (V := [[120], [121]]) (Po := [[112], [113]]) (Ti := [[116]]) (by simp) t N t1 (by omega) (by omega) (by simp only [List.length_nil]; omega)
    obtain ⟨ls, fs, ns, gs⟩ := c16 (R := Bool) hN (V := [[120], [121]]) (Po := [[112], [113]]) (Ti := [[116]]) (by simp) t N t1 (by omega) (by omega) (by simp only [List.length_nil]; omega)
    simp only [List.length_nil, Nat.zero_add] at nr ns
    have eErr : ∀ k' : Bool → Option R, (l30_EffectErrs_inst N).effect_Errs R t.e.Kind t.e.N t.e.Name t.e.Kids t.e.At ([[120], [121]]) ([[112], [113]]) ([[116]]) ([] : List Node) q k' = k' (t.bad || decide ((t.len : Int) > q)) := by
      intro k'
      show effect_Errs N t.e.Kind t.e.N t.e.Name t.e.Kids t.e.At _ _ _ _ q k' = _
      unfold effect_Errs effect_may
      rw [may30 (by omega) t N _ t1 (by omega)]
      have e2 : code_Guard N t.e.Kind t.e.N t.e.Name t.e.Kids t.e.At ([[120], [121]]) ([[112], [113]]) ([[116]]) ([] : List Node) (fun (r2 : List Ins) => code_Most N r2 (fun (r3 : Int) => some (decide (r3 > q)))) = some (decide ((t.len : Int) > q)) := by
        unfold code_Guard
        refine (fc _).trans ?_
        dsimp only
        rw [most_eq hN gc (by omega), nc]
      rw [e2]
      cases t.bad <;> rfl
    rw [eErr]
    unfold l30_EffectErrs_c7
    have eG : ∀ k' : List Ins → Option R, (l30_EffectErrs_inst N).r16_Guard R t.e.Kind t.e.N t.e.Name t.e.Kids t.e.At ([[120], [121]]) ([[112], [113]]) ([[116]]) ([] : List Node) k' = k' lr := fun k' => fr k'
    rw [eG]
    have eR : ∀ k' : Int → List Int → List Msg → List Effc → Int → Int → Option R, (l30_EffectErrs_inst N).r17_Run R lr [x, y] arg q k' = r17_Run N lr [x, y] arg q k' := fun k' => rfl
    rw [eR]
    refine run_ok hN gr (by omega) (Vars := [x, y]) (by simp) _ fun v0 Vs Ra Fx co cd hcd => ?_
    have eE : ∀ k' : Bool → Option R, (l30_EffectErrs_inst N).r30_Errs R t.e.Kind t.e.N t.e.Name t.e.Kids t.e.At ([[120], [121]]) ([[112], [113]]) ([[116]]) ([] : List Node) q k' = k' (t.bad || decide ((t.len : Int) > q)) := by
      intro k'
      show r30_Errs N t.e.Kind t.e.N t.e.Name t.e.Kids t.e.At _ _ _ _ q k' = _
      unfold r30_Errs r30_errs
      rw [errs30 (by omega) t N _ t1 (by omega)]
      have e2 : r16_Guard N t.e.Kind t.e.N t.e.Name t.e.Kids t.e.At ([[120], [121]]) ([[112], [113]]) ([[116]]) ([] : List Node) (fun (r2 : List Ins) => r16_Most N r2 (fun (r3 : Int) => some (decide (r3 > q)))) = some (decide ((t.len : Int) > q)) := by
        unfold r16_Guard
        refine (fs _).trans ?_
        dsimp only
        rw [most16_eq hN gs.nl (by omega), ns]
      rw [e2]
      cases t.bad <;> rfl
    rw [eE]
    have fin : ifB (t.bad || decide ((t.len : Int) > q)) false (some (cd == 0)) (some true) = some true := by
      cases hB : (t.bad || decide ((t.len : Int) > q)) with
      | true => rfl
      | false =>
        simp only [Bool.or_eq_false_iff, decide_eq_false_iff_not] at hB
        have := hcd ⟨hB.1, by omega⟩
        subst this; rfl
    rw [fin]
    simp only [BEq.rfl, ifB_tt, Option.bind_some, kn]
    exact ⟨r, hk, rfl⟩
  obtain ⟨z, h1, h2⟩ := key
  rw [h1, h2]
end
theorem effectErrs_ok (v : List Int) (fuel x y arg : Int) {p1 p2 p3 p4 p5 : Prop} (_ : p1) (_ : p2) (_ : p3) (_ : p4) (_ : p5) : CallOK E0 4 [.tree .int v, .int .i64 fuel, .int .i64 x, .int .i64 y, .int .i64 arg] [] ⟨.bool true, some [], []⟩ := by
  obtain ⟨res, e, h⟩ := l30_EffectErrs_ok big (Res S) ((v, fuel, x, y, arg, ()), ()) some ⟨.bool true, some [], []⟩ (errs_law (Nat.le_refl _) v fuel x y arg _ _ rfl)
  cases e
  exact h
end Ef

