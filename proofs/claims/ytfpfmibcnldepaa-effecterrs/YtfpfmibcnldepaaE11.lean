/- The program's code from nothing; the most of both; a run of the reference's code. -/
import Derived.Test.YtfpfmibcnldepaaE10
set_option maxRecDepth 100000
set_option linter.unusedVariables false
set_option linter.unusedSimpArgs false
namespace Ef
open Go TE Go.Proofs
section
variable {R : Type} {N : Nat} {V Po Ti : List (List UInt8)} {No : List Node}
theorem NL.one {x : Ins} (hx : x.Op ≠ 25) : NL [x] := fun i y hy => by
  cases i with
  | zero => cases hy; exact hx
  | succ j => simp at hy
theorem put1 (op A n : Int) (s : List UInt8) (k : Int → List Ins → Option R) : code_writer_put N op A n s V Po Ti No k = k 0 [⟨op, A, n, s⟩] := by
  unfold code_writer_put
  rw [if_pos (by simp [maxRow])]
  rfl
theorem cw (hN : big ≤ N) (hV : V.length ≤ 1000) : ∀ (t : Tr) (m : Nat), t.ok → 2 * t.dep < m → t.dep ≤ 1000 → t.len ≤ 1000000 →
    ∃ l, (∀ (k : List Ins → Option R), (Fam_code_writer_expr_at N m).code_writer_expr R t.e.Kind t.e.N t.e.Name t.e.Kids t.e.At V Po Ti [] k = k l) ∧ l.length = t.len ∧ NL l := by
  have hb : big = 1000000000 := rfl
  have hN3 : ∃ q, N = q + 3 := ⟨N - 3, by omega⟩
  intro t
  induction t with
  | leaf kd n s =>
    intro m h1 h2 hd h3
    obtain ⟨m, rfl⟩ : ∃ q, m = q + 1 := ⟨m - 1, by omega⟩
    have h1 : kd = 1 ∨ kd = 2 ∨ kd = 3 := h1
    rcases h1 with rfl | rfl | rfl
    · refine ⟨[⟨1, 0, n, []⟩], fun k => ?_, rfl, NL.one (by simp)⟩
      show code_writer_expr_d (Fam_code_writer_expr_at N m) N 1 n s [] 0 V Po Ti [] k = _
      unfold code_writer_expr_d
      rw [if_pos (by rfl)]
      unfold code_writer_push
      rw [put1]
    · obtain ⟨x, hx⟩ := index2 (R := R) hN V hV s
      refine ⟨[⟨2, x, 0, []⟩], fun k => ?_, rfl, NL.one (by simp)⟩
      show code_writer_expr_d (Fam_code_writer_expr_at N m) N 2 n s [] 0 V Po Ti [] k = _
      unfold code_writer_expr_d
      rw [if_neg (by decide), if_pos (by rfl), hx, put1]
    · refine ⟨[⟨3, 0, 0, []⟩], fun k => ?_, rfl, NL.one (by simp)⟩
      show code_writer_expr_d (Fam_code_writer_expr_at N m) N 3 n s [] 0 V Po Ti [] k = _
      unfold code_writer_expr_d
      rw [if_neg (by decide), if_neg (by decide), if_pos (by rfl), put1]
  | one kd a iha =>
    intro m h1 h2 hd h3
    obtain ⟨m, rfl⟩ : ∃ q, m = q + 1 := ⟨m - 1, by omega⟩
    obtain ⟨h1, h4⟩ := h1
    simp only [Tr.len, Tr.dep] at h3 h2 hd
    obtain ⟨l1, f1, n1, g1⟩ := cw_2 (R := R) hN (Po := Po) (Ti := Ti) hV a N [] h4 (by omega) (by simp only [List.length_nil]; omega) (fun i x h => by simp at h)
    have f1 : ∀ (k : List Ins → Option R) (k1 : Option R), code_writer_expr_2 N a.e.Kind a.e.N a.e.Name a.e.Kids a.e.At V Po Ti [] [] k k1 = k l1 := f1
    simp only [List.length_nil, Nat.zero_add] at n1
    refine ⟨l1 ++ [⟨kd, 0, 0, []⟩], fun k => ?_, by simp only [Tr.len, List.length_append, List.length_cons, List.length_nil]; omega, g1.app (by simp only; omega)⟩
    show code_writer_expr_d (Fam_code_writer_expr_at N m) N kd 0 [] [a.e] 0 V Po Ti [] k = _
    unfold code_writer_expr_d
    rw [if_neg (by simp; omega), if_neg (by simp; omega), if_neg (by simp; omega), if_neg (by simp; omega), if_neg (by simp; omega)]
    unfold code_writer_expr_c18
    rw [if_neg (by simp; omega)]
    obtain ⟨q, rfl⟩ := hN3
    simp only [code_writer_expr_l1, code_writer_expr_l1_b]
    rw [if_pos (by simp), show at? [a.e] 0 = some a.e from rfl, Option.bind_some, f1, show IntKind.wrap .i64 (0 + 1) = 1 from rfl, if_neg (by simp), cop (by omega) (by omega), put2 (by omega)]
  | two kd a b iha ihb =>
    intro m h1 h2 hd h3
    obtain ⟨⟨h1, h1'⟩, h4, h5⟩ := h1
    simp only [Tr.len, Tr.dep] at h3 h2 hd
    obtain ⟨m, rfl⟩ : ∃ q, m = q + 2 := ⟨m - 2, by omega⟩
    have at0 : at? [a.e, b.e] 0 = some a.e := rfl
    have at1 : at? [a.e, b.e] 1 = some b.e := rfl
    have dsp : kd = 18 ∨ kd = 19 → ∀ (k : List Ins → Option R), (Fam_code_writer_expr_at N (m + 2)).code_writer_expr R kd 0 [] [a.e, b.e] 0 V Po Ti [] k = code_writer_both_d (Fam_code_writer_expr_at N m) N kd 0 [] [a.e, b.e] 0 V Po Ti [] k := by
      intro hk k
      show code_writer_expr_d (Fam_code_writer_expr_at N (m + 1)) N kd 0 [] [a.e, b.e] 0 V Po Ti [] k = _
      unfold code_writer_expr_d
      rw [if_neg (by simp; omega), if_neg (by simp; omega), if_neg (by simp; omega), if_neg (by simp; omega)]
      have c18 : ∀ (q : Bool) (kp1 : Option R), q = true → code_writer_expr_c18 (Fam_code_writer_expr_at N (m + 1)) N q V Po Ti [] kd 0 [] [a.e, b.e] 0 (fun (y : List Ins) => k y) kp1 = code_writer_both_d (Fam_code_writer_expr_at N m) N kd 0 [] [a.e, b.e] 0 V Po Ti [] k := by
        intro q kp1 hq
        unfold code_writer_expr_c18
        rw [if_pos hq, if_pos (by rfl)]
        rfl
      rcases hk with rfl | rfl
      · rw [if_pos (by rfl)]; exact c18 _ _ rfl
      · rw [if_neg (by decide)]; exact c18 _ _ rfl
    by_cases c18 : kd = 18
    · subst c18
      rw [if_pos rfl] at h3
      obtain ⟨l1, f1, n1, g1⟩ := iha m h4 (by omega) (by omega) (by omega)
      have g2 : NL (l1 ++ [(⟨24, 0, 0, []⟩ : Ins)]) := g1.app (by decide)
      have e2 : (l1 ++ [(⟨24, 0, 0, []⟩ : Ins)]).length = l1.length + 1 := by simp
      obtain ⟨l3, f3, n3, g3⟩ := cw_2 (R := R) hN (Po := Po) (Ti := Ti) hV b N (l1 ++ [(⟨24, 0, 0, []⟩ : Ins)]) h5 (by omega) (by omega) g2
      have f3 : ∀ (k : List Ins → Option R) (k1 : Option R), code_writer_expr_2 N b.e.Kind b.e.N b.e.Name b.e.Kids b.e.At V Po Ti [] (l1 ++ [(⟨24, 0, 0, []⟩ : Ins)]) k k1 = k l3 := f3
      obtain ⟨l4, n4, g4, f4⟩ := tail5 (R := R) (N := N) (V := V) (Po := Po) (Ti := Ti) (No := []) (F := Fam_code_writer_expr_2_at N 0) (l := l3) (by omega) g3 (i := l1.length) (by omega)
      refine ⟨l4, fun k => ?_, ?_, g4⟩
      · refine (dsp (.inl rfl) k).trans ?_
        unfold code_writer_both_d
        rw [at0, Option.bind_some, f1, put2 (by omega), if_pos (by rfl), at1, Option.bind_some, f3]
        exact f4 _
      · show _ = a.len + b.len + (if (18 : Int) = 18 then 5 else _); rw [if_pos rfl]; omega
    · rw [if_neg c18] at h3
      by_cases c19 : kd = 19
      · subst c19
        rw [if_pos rfl] at h3
        obtain ⟨l1, f1, n1, g1⟩ := iha m h4 (by omega) (by omega) (by omega)
        have g2 : NL (l1 ++ [(⟨24, 0, 0, []⟩ : Ins)]) := g1.app (by decide)
        have g22 : NL (l1 ++ [(⟨24, 0, 0, []⟩ : Ins)] ++ [(⟨1, 0, 1, []⟩ : Ins)]) := g2.app (by decide)
        have g23 : NL (l1 ++ [(⟨24, 0, 0, []⟩ : Ins)] ++ [(⟨1, 0, 1, []⟩ : Ins)] ++ [(⟨23, 0, 0, []⟩ : Ins)]) := g22.app (by decide)
        have e1 : (l1 ++ [(⟨24, 0, 0, []⟩ : Ins)]).length = l1.length + 1 := by simp
        have e2 : (l1 ++ [(⟨24, 0, 0, []⟩ : Ins)] ++ [(⟨1, 0, 1, []⟩ : Ins)]).length = l1.length + 2 := by simp
        have e3 : (l1 ++ [(⟨24, 0, 0, []⟩ : Ins)] ++ [(⟨1, 0, 1, []⟩ : Ins)] ++ [(⟨23, 0, 0, []⟩ : Ins)]).length = l1.length + 3 := by simp
        obtain ⟨l2, a1, a2, a3⟩ := here2 (R := R) (N := N) (V := V) (Po := Po) (Ti := Ti) (No := []) (i := l1.length) (by omega) g23
        obtain ⟨l3, f3, n3, g3⟩ := cw_2 (R := R) hN (Po := Po) (Ti := Ti) hV b N l2 h5 (by omega) (by omega) a2
        have f3 : ∀ (k : List Ins → Option R) (k1 : Option R), code_writer_expr_2 N b.e.Kind b.e.N b.e.Name b.e.Kids b.e.At V Po Ti [] l2 k k1 = k l3 := f3
        obtain ⟨l4, n4, g4, f4⟩ := tail16 (R := R) (N := N) (V := V) (Po := Po) (Ti := Ti) (No := []) (F := Fam_code_writer_expr_2_at N 0) (l := l3) (by omega) g3 (i := l1.length + 2) (by omega)
        refine ⟨l4, fun k => ?_, ?_, g4⟩
        · refine (dsp (.inr rfl) k).trans ?_
          unfold code_writer_both_d
          rw [at0, Option.bind_some, f1, put2 (by omega), if_neg (by decide)]
          unfold code_writer_both_c12
          rw [push2 (by omega), put2 (by omega), e2, a3, at1, Option.bind_some, f3]
          exact f4 _
        · show _ = a.len + b.len + (if (19 : Int) = 18 then 5 else if (19 : Int) = 19 then 7 else 1); rw [if_neg (by decide), if_pos rfl]; omega
      · rw [if_neg c19] at h3
        obtain ⟨l1, f1, n1, g1⟩ := cw_2 (R := R) hN (Po := Po) (Ti := Ti) hV a N [] h4 (by omega) (by simp only [List.length_nil]; omega) (fun i x h => by simp at h)
        have f1 : ∀ (k : List Ins → Option R) (k1 : Option R), code_writer_expr_2 N a.e.Kind a.e.N a.e.Name a.e.Kids a.e.At V Po Ti [] [] k k1 = k l1 := f1
        simp only [List.length_nil, Nat.zero_add] at n1
        obtain ⟨l3, f3, n3, g3⟩ := cw_2 (R := R) hN (Po := Po) (Ti := Ti) hV b N l1 h5 (by omega) (by omega) g1
        have f3 : ∀ (k : List Ins → Option R) (k1 : Option R), code_writer_expr_2 N b.e.Kind b.e.N b.e.Name b.e.Kids b.e.At V Po Ti [] l1 k k1 = k l3 := f3
        refine ⟨l3 ++ [⟨kd, 0, 0, []⟩], fun k => ?_, ?_, g3.app (by simp only; omega)⟩
        · show code_writer_expr_d (Fam_code_writer_expr_at N (m + 1)) N kd 0 [] [a.e, b.e] 0 V Po Ti [] k = _
          unfold code_writer_expr_d
          rw [if_neg (by simp; omega), if_neg (by simp; omega), if_neg (by simp; omega), if_neg (by simp; omega), if_neg (by simp; omega)]
          unfold code_writer_expr_c18
          rw [if_neg (by simp; omega)]
          obtain ⟨q, rfl⟩ := hN3
          simp only [code_writer_expr_l1, code_writer_expr_l1_b]
          rw [if_pos (by simp), at0, Option.bind_some, f1, show IntKind.wrap .i64 (0 + 1) = 1 from rfl, if_pos (by simp), at1, Option.bind_some, f3, show IntKind.wrap .i64 (1 + 1) = 2 from rfl, if_neg (by simp), cop (by omega) (by omega), put2 (by omega)]
        · rw [List.length_append]; show l3.length + 1 = a.len + b.len + (if kd = 18 then 5 else if kd = 19 then 7 else 1); rw [if_neg c18, if_neg c19]; omega
/-! the most -/
theorem most_eq (hN : big ≤ N) {c : List Ins} (hc : NL c) (hl : c.length ≤ 1000000) (k : Int → Option R) : code_Most N c k = k c.length := by
  have hb : big = 1000000000 := rfl
  obtain ⟨N', hN'⟩ : ∃ q, N = q + 1 := ⟨N - 1, by omega⟩
  have key : ∀ (n i : Nat), c.length < n + i → i ≤ c.length → code_Most_l0 N c (c.length : Nat) k n (i : Int) 1 (i : Int) [] [] = k c.length := by
    intro n
    induction n with
    | zero => intro i h1 h2; omega
    | succ n ih =>
      intro i h1 h2
      simp only [code_Most_l0, code_Most_l0_b]
      by_cases hi : i < c.length
      · obtain ⟨x, hx, _⟩ := drop_cons hi
        rw [if_pos (by simpa using hi), at_nat, hx, Option.bind_some]
        have h25 : (x.Op == 25) = false := by have := hc i x hx; simpa using this
        have l2 : ∀ kp0 : Int → List Int → List Int → Option R, code_Most_l2 N (i : Int) (i : Int) c (c.length : Nat) (i : Int) x.Op x.A x.N x.S kp0 N 1 [] [] = kp0 1 [] [] := by
          intro kp0
          rw [hN']
          simp only [code_Most_l2, code_Most_l2_b]
          rfl
        rw [l2, h25, if_neg (by simp), wr _ (by omega) (by omega)]
        exact ih (i + 1) (by omega) (by omega)
      · rw [if_neg (by simpa using hi)]
        rw [show i = c.length by omega]
  exact key N 0 (by omega) (by omega)
theorem times_eq (hN : big ≤ N) {c : List Ins} (hc : NL c) (hl : c.length ≤ 1000000) {a : Nat} (ha : a < c.length) (k : Int → Option R) : r16_Times N c (a : Int) k = k 1 := by
  have hb : big = 1000000000 := rfl
  have key : ∀ (n i : Nat), c.length < n + i → i ≤ a → r16_Times_l0 N c (a : Int) k n 1 (i : Int) = k 1 := by
    intro n
    induction n with
    | zero => intro i h1 h2; omega
    | succ n ih =>
      intro i h1 h2
      simp only [r16_Times_l0, r16_Times_l0_b]
      by_cases hi : i < a
      · obtain ⟨x, hx, _⟩ := drop_cons (l := c) (i := i) (by omega)
        have h25 : (x.Op == 25) = false := by have := hc i x hx; simpa using this
        rw [if_pos (by simpa using hi), at_nat, hx, Option.bind_some, h25, ifB_ft, Option.bind_some, if_neg (by simp), wr _ (by omega) (by omega)]
        exact ih (i + 1) (by omega) (by omega)
      · rw [if_neg (by simpa using hi)]
  unfold r16_Times
  rw [show decide ((a : Int) < 0) = false by simp, show decide ((a : Int) ≥ ((c.length : Nat) : Int)) = false by simp; omega, ifB_ff, Option.bind_some, if_neg (by simp)]
  exact key N 0 (by omega) (by omega)
theorem most16_eq (hN : big ≤ N) {c : List Ins} (hc : NL c) (hl : c.length ≤ 1000000) (k : Int → Option R) : r16_Most N c k = k c.length := by
  have hb : big = 1000000000 := rfl
  have key : ∀ (n i : Nat), c.length < n + i → i ≤ c.length → r16_Most_l0 N c k n (i : Int) (i : Int) = k c.length := by
    intro n
    induction n with
    | zero => intro i h1 h2; omega
    | succ n ih =>
      intro i h1 h2
      simp only [r16_Most_l0, r16_Most_l0_b]
      by_cases hi : i < c.length
      · rw [if_pos (by simpa using hi), times_eq hN hc hl hi, wr _ (by omega) (by omega)]
        exact ih (i + 1) (by omega) (by omega)
      · rw [if_neg (by simpa using hi)]
        rw [show i = c.length by omega]
  exact key N 0 (by omega) (by omega)
end
end Ef

