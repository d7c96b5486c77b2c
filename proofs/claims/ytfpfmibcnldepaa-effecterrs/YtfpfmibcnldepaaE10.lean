/- The program's code of an expression: as long as the reference's, without loops; the most of both. -/
import Derived.Test.YtfpfmibcnldepaaE9
set_option maxRecDepth 100000
set_option linter.unusedVariables false
set_option linter.unusedSimpArgs false
namespace Ef
open Go TE Go.Proofs
def NL (l : List Ins) : Prop := ∀ (i : Nat) (x : Ins), l[i]? = some x → x.Op ≠ 25
theorem NL.app {l : List Ins} (h : NL l) {x : Ins} (hx : x.Op ≠ 25) : NL (l ++ [x]) := fun i y hy => by
  by_cases hi : i < l.length
  · rw [List.getElem?_append_left hi] at hy; exact h i y hy
  · rw [List.getElem?_append_right (by omega)] at hy
    generalize i - l.length = j at hy
    cases j with
    | zero => cases hy; exact hx
    | succ j => simp at hy
section
variable {R : Type} {N : Nat} {V Po Ti : List (List UInt8)} {No : List Node}
theorem put2 {l : List Ins} (hl : l.length ≤ 2000000) (op A n : Int) (s : List UInt8) (k : Int → List Ins → Option R) : code_writer_put_2 N op A n s V Po Ti No l k = k (l.length : Int) (l ++ [⟨op, A, n, s⟩]) := by
  have hm : maxRow = 68719476736 := rfl
  unfold code_writer_put_2
  rw [if_pos (by simp only [List.length_cons, List.length_nil]; omega), List.length_append]
  rw [show IntKind.wrap .i64 (((l.length + [(⟨op, A, n, s⟩ : Ins)].length : Nat) : Int) - 1) = (l.length : Int) by
    rw [show [(⟨op, A, n, s⟩ : Ins)].length = 1 from rfl, wr _ (by omega) (by omega)]; omega]
theorem push2 {l : List Ins} (hl : l.length ≤ 2000000) (n : Int) (k : List Ins → Option R) : code_writer_push_2 N n V Po Ti No l k = k (l ++ [⟨1, 0, n, []⟩]) := by
  unfold code_writer_push_2
  rw [put2 hl]
theorem here2 {l : List Ins} {i : Nat} (hi : i < l.length) (hn : NL l) : ∃ l', l'.length = l.length ∧ NL l' ∧ ∀ k : List Ins → Option R, code_writer_here N (i : Int) V Po Ti No l k = k l' := by
  have hx : l[(i : Int).toNat]? = some l[i] := List.getElem?_eq_getElem hi
  refine ⟨l.set i ⟨(l[i]).Op, (l.length : Nat), (l[i]).N, (l[i]).S⟩, by rw [List.length_set], fun j y hy => ?_, fun k => ?_⟩
  · by_cases e : j = i
    · subst e
      rw [List.getElem?_set_self hi] at hy
      cases hy
      exact (hn j (l[j]) (List.getElem?_eq_getElem hi) :)
    · rw [List.getElem?_set_ne (Ne.symm e)] at hy
      exact hn j y hy
  · unfold code_writer_here
    rw [if_pos ⟨by omega, by omega⟩, hx]
    rfl
theorem tail5 {F : Fam_code_writer_expr_2} {l : List Ins} (hl : l.length ≤ 1000000) (hn : NL l) {i : Nat} (hi : i < l.length) : ∃ l', l'.length = l.length + 4 ∧ NL l' ∧ ∀ k : List Ins → Option R, code_writer_both_2_c5 F N (i : Int) V Po Ti No l k = k l' := by
  have n1 : NL (l ++ [(⟨24, 0, 0, []⟩ : Ins)]) := hn.app (by decide)
  have n2 : NL (l ++ [(⟨24, 0, 0, []⟩ : Ins)] ++ [(⟨1, 0, 1, []⟩ : Ins)]) := n1.app (by decide)
  have n3 : NL (l ++ [(⟨24, 0, 0, []⟩ : Ins)] ++ [(⟨1, 0, 1, []⟩ : Ins)] ++ [(⟨23, 0, 0, []⟩ : Ins)]) := n2.app (by decide)
  have e3 : (l ++ [(⟨24, 0, 0, []⟩ : Ins)] ++ [(⟨1, 0, 1, []⟩ : Ins)] ++ [(⟨23, 0, 0, []⟩ : Ins)]).length = l.length + 3 := by simp
  have e2 : (l ++ [(⟨24, 0, 0, []⟩ : Ins)] ++ [(⟨1, 0, 1, []⟩ : Ins)]).length = l.length + 2 := by simp
  have e1 : (l ++ [(⟨24, 0, 0, []⟩ : Ins)]).length = l.length + 1 := by simp
  obtain ⟨l4, a1, a2, a3⟩ := here2 (R := R) (N := N) (V := V) (Po := Po) (Ti := Ti) (No := No) (i := i) (by omega) n3
  obtain ⟨l5, b1, b2, b3⟩ := here2 (R := R) (N := N) (V := V) (Po := Po) (Ti := Ti) (No := No) (i := l.length) (by omega) a2
  have n6 : NL (l5 ++ [⟨1, 0, 0, []⟩]) := b2.app (by decide)
  have e6 : (l5 ++ [(⟨1, 0, 0, []⟩ : Ins)]).length = l.length + 4 := by rw [List.length_append, b1, a1, e3]; rfl
  obtain ⟨l7, c1, c2, c3⟩ := here2 (R := R) (N := N) (V := V) (Po := Po) (Ti := Ti) (No := No) (i := l.length + 2) (by omega) n6
  refine ⟨l7, by omega, c2, fun k => ?_⟩
  unfold code_writer_both_2_c5
  rw [put2 (by omega), push2 (by omega)]
  unfold code_writer_both_2_c7
  rw [put2 (by omega), e2, a3, b3, push2 (by omega), c3]
theorem tail16 {F : Fam_code_writer_expr_2} {l : List Ins} (hl : l.length ≤ 1000000) (hn : NL l) {i : Nat} (hi : i < l.length) : ∃ l', l'.length = l.length + 4 ∧ NL l' ∧ ∀ k : List Ins → Option R, code_writer_both_2_c16 F N (i : Int) V Po Ti No l k = k l' := by
  have n1 : NL (l ++ [(⟨24, 0, 0, []⟩ : Ins)]) := hn.app (by decide)
  have n2 : NL (l ++ [(⟨24, 0, 0, []⟩ : Ins)] ++ [(⟨1, 0, 1, []⟩ : Ins)]) := n1.app (by decide)
  have n3 : NL (l ++ [(⟨24, 0, 0, []⟩ : Ins)] ++ [(⟨1, 0, 1, []⟩ : Ins)] ++ [(⟨23, 0, 0, []⟩ : Ins)]) := n2.app (by decide)
  have e3 : (l ++ [(⟨24, 0, 0, []⟩ : Ins)] ++ [(⟨1, 0, 1, []⟩ : Ins)] ++ [(⟨23, 0, 0, []⟩ : Ins)]).length = l.length + 3 := by simp
  have e2 : (l ++ [(⟨24, 0, 0, []⟩ : Ins)] ++ [(⟨1, 0, 1, []⟩ : Ins)]).length = l.length + 2 := by simp
  have e1 : (l ++ [(⟨24, 0, 0, []⟩ : Ins)]).length = l.length + 1 := by simp
  obtain ⟨l4, a1, a2, a3⟩ := here2 (R := R) (N := N) (V := V) (Po := Po) (Ti := Ti) (No := No) (i := l.length) (by omega) n3
  have n6 : NL (l4 ++ [⟨1, 0, 0, []⟩]) := a2.app (by decide)
  have e6 : (l4 ++ [(⟨1, 0, 0, []⟩ : Ins)]).length = l.length + 4 := by rw [List.length_append, a1, e3]; rfl
  obtain ⟨l7, c1, c2, c3⟩ := here2 (R := R) (N := N) (V := V) (Po := Po) (Ti := Ti) (No := No) (i := i) (by omega) n6
  obtain ⟨l8, d1, d2, d3⟩ := here2 (R := R) (N := N) (V := V) (Po := Po) (Ti := Ti) (No := No) (i := l.length + 2) (by omega) c2
  refine ⟨l8, by omega, d2, fun k => ?_⟩
  unfold code_writer_both_2_c16
  rw [put2 (by omega)]
  unfold code_writer_both_2_c17
  rw [push2 (by omega), put2 (by omega), e2, a3, push2 (by omega), c3, d3]
theorem index2 (hN : big ≤ N) (l : List (List UInt8)) (hl : l.length ≤ 1000) (s : List UInt8) : ∃ x, ∀ k : Int → Option R, slices_Index_string N l s k = k x := by
  have hb : big = 1000000000 := rfl
  have key : ∀ (n i : Nat), l.length < n + i → i ≤ l.length → ∃ x : Int, ∀ k : Int → Option R, slices_Index_string_l0 N l s (l.length : Nat) (k (-1)) k n (i : Int) = k x := by
    intro n
    induction n with
    | zero => intro i h1 h2; omega
    | succ n ih =>
      intro i h1 h2
      simp only [slices_Index_string_l0, slices_Index_string_l0_b]
      by_cases hi : i < l.length
      · obtain ⟨x, hx, _⟩ := drop_cons hi
        by_cases he : s = x
        · exact ⟨i, fun k => by rw [if_pos (by simpa using hi), at_nat, hx, Option.bind_some, if_pos (by simpa using he)]⟩
        · obtain ⟨y, hy⟩ := ih (i + 1) (by omega) (by omega)
          exact ⟨y, fun k => by rw [if_pos (by simpa using hi), at_nat, hx, Option.bind_some, if_neg (by simpa using he), wr _ (by omega) (by omega)]; exact hy k⟩
      · exact ⟨-1, fun k => by rw [if_neg (by simpa using hi)]⟩
  obtain ⟨x, hx⟩ := key N 0 (by omega) (by omega)
  exact ⟨x, fun k => hx k⟩
theorem cop {kd : Int} (h1 : 5 ≤ kd) (h2 : kd ≤ 17) (k : Int → Option R) : code_op N kd k = k kd := by
  unfold code_op
  by_cases c5 : kd = 5; · subst c5; simp
  by_cases c6 : kd = 6; · subst c6; simp
  by_cases c7 : kd = 7; · subst c7; simp
  by_cases c8 : kd = 8; · subst c8; simp
  by_cases c9 : kd = 9; · subst c9; simp
  by_cases c10 : kd = 10; · subst c10; simp
  by_cases c11 : kd = 11; · subst c11; simp
  by_cases c12 : kd = 12; · subst c12; simp
  by_cases c13 : kd = 13; · subst c13; simp
  by_cases c14 : kd = 14; · subst c14; simp
  by_cases c15 : kd = 15; · subst c15; simp
  by_cases c16 : kd = 16; · subst c16; simp
  have : kd = 17 := by omega
  subst this; simp
theorem cw_2 (hN : big ≤ N) (hV : V.length ≤ 1000) : ∀ (t : Tr) (m : Nat) (c : List Ins), t.ok → 2 * t.dep < m → c.length + t.len ≤ 1000000 → NL c →
    ∃ l, (∀ (k : List Ins → Option R) (k1 : Option R), (Fam_code_writer_expr_2_at N m).code_writer_expr_2 R t.e.Kind t.e.N t.e.Name t.e.Kids t.e.At V Po Ti [] c k k1 = k l) ∧ l.length = c.length + t.len ∧ NL l := by
  have hb : big = 1000000000 := rfl
  have hN3 : ∃ q, N = q + 3 := ⟨N - 3, by omega⟩
  intro t
  induction t with
  | leaf kd n s =>
    intro m c h1 h2 h3 hc
    obtain ⟨m, rfl⟩ : ∃ q, m = q + 1 := ⟨m - 1, by omega⟩
    simp only [Tr.len] at h3
    have h1 : kd = 1 ∨ kd = 2 ∨ kd = 3 := h1
    rcases h1 with rfl | rfl | rfl
    · refine ⟨c ++ [⟨1, 0, n, []⟩], fun k k1 => ?_, by simp [Tr.len], hc.app (by simp)⟩
      show code_writer_expr_2_d (Fam_code_writer_expr_2_at N m) N 1 n s [] 0 V Po Ti [] c k k1 = _
      unfold code_writer_expr_2_d
      rw [if_pos (by rfl), push2 (by omega)]
    · obtain ⟨x, hx⟩ := index2 (R := R) hN V hV s
      refine ⟨c ++ [⟨2, x, 0, []⟩], fun k k1 => ?_, by simp [Tr.len], hc.app (by simp)⟩
      show code_writer_expr_2_d (Fam_code_writer_expr_2_at N m) N 2 n s [] 0 V Po Ti [] c k k1 = _
      unfold code_writer_expr_2_d
      rw [if_neg (by decide), if_pos (by rfl), hx, put2 (by omega)]
    · refine ⟨c ++ [⟨3, 0, 0, []⟩], fun k k1 => ?_, by simp [Tr.len], hc.app (by simp)⟩
      show code_writer_expr_2_d (Fam_code_writer_expr_2_at N m) N 3 n s [] 0 V Po Ti [] c k k1 = _
      unfold code_writer_expr_2_d
      rw [if_neg (by decide), if_neg (by decide), if_pos (by rfl), put2 (by omega)]
  | one kd a iha =>
    intro m c h1 h2 h3 hc
    obtain ⟨m, rfl⟩ : ∃ q, m = q + 1 := ⟨m - 1, by omega⟩
    obtain ⟨h1, h4⟩ := h1
    simp only [Tr.len, Tr.dep] at h3 h2
    obtain ⟨l1, f1, n1, g1⟩ := iha m c h4 (by omega) (by omega) hc
    refine ⟨l1 ++ [⟨kd, 0, 0, []⟩], fun k k1 => ?_, by simp only [Tr.len, List.length_append, List.length_cons, List.length_nil]; omega, g1.app (by simp only; omega)⟩
    show code_writer_expr_2_d (Fam_code_writer_expr_2_at N m) N kd 0 [] [a.e] 0 V Po Ti [] c k k1 = _
    unfold code_writer_expr_2_d
    rw [if_neg (by simp; omega), if_neg (by simp; omega), if_neg (by simp; omega), if_neg (by simp; omega), if_neg (by simp; omega)]
    unfold code_writer_expr_2_c18
    rw [if_neg (by simp; omega)]
    obtain ⟨q, rfl⟩ := hN3
    simp only [code_writer_expr_2_l1, code_writer_expr_2_l1_b]
    rw [if_pos (by simp), show at? [a.e] 0 = some a.e from rfl, Option.bind_some, f1, show IntKind.wrap .i64 (0 + 1) = 1 from rfl, if_neg (by simp), cop (by omega) (by omega), put2 (by omega)]
  | two kd a b iha ihb =>
    intro m c h1 h2 h3 hc
    obtain ⟨⟨h1, h1'⟩, h4, h5⟩ := h1
    simp only [Tr.len, Tr.dep] at h3 h2
    obtain ⟨m, rfl⟩ : ∃ q, m = q + 2 := ⟨m - 2, by omega⟩
    have at0 : at? [a.e, b.e] 0 = some a.e := rfl
    have at1 : at? [a.e, b.e] 1 = some b.e := rfl
    have dsp : kd = 18 ∨ kd = 19 → ∀ (k : List Ins → Option R) (k1 : Option R), (Fam_code_writer_expr_2_at N (m + 2)).code_writer_expr_2 R kd 0 [] [a.e, b.e] 0 V Po Ti [] c k k1 = code_writer_both_2_d (Fam_code_writer_expr_2_at N m) N kd 0 [] [a.e, b.e] 0 V Po Ti [] c k := by
      intro hk k k1
      show code_writer_expr_2_d (Fam_code_writer_expr_2_at N (m + 1)) N kd 0 [] [a.e, b.e] 0 V Po Ti [] c k k1 = _
      unfold code_writer_expr_2_d
      rw [if_neg (by simp; omega), if_neg (by simp; omega), if_neg (by simp; omega), if_neg (by simp; omega)]
      have c18 : ∀ q : Bool, q = true → code_writer_expr_2_c18 (Fam_code_writer_expr_2_at N (m + 1)) N q V Po Ti [] c kd 0 [] [a.e, b.e] 0 (fun (y : List Ins) => k y) k1 = code_writer_both_2_d (Fam_code_writer_expr_2_at N m) N kd 0 [] [a.e, b.e] 0 V Po Ti [] c k := by
        intro q hq
        unfold code_writer_expr_2_c18
        rw [if_pos hq, if_pos (by rfl)]
        rfl
      rcases hk with rfl | rfl
      · rw [if_pos (by rfl)]; exact c18 _ rfl
      · rw [if_neg (by decide)]; exact c18 _ rfl
    by_cases c18 : kd = 18
    · subst c18
      rw [if_pos rfl] at h3
      obtain ⟨l1, f1, n1, g1⟩ := iha m c h4 (by omega) (by omega) hc
      have g2 : NL (l1 ++ [(⟨24, 0, 0, []⟩ : Ins)]) := g1.app (by decide)
      have e2 : (l1 ++ [(⟨24, 0, 0, []⟩ : Ins)]).length = l1.length + 1 := by simp
      obtain ⟨l3, f3, n3, g3⟩ := ihb m (l1 ++ [(⟨24, 0, 0, []⟩ : Ins)]) h5 (by omega) (by omega) g2
      obtain ⟨l4, n4, g4, f4⟩ := tail5 (R := R) (N := N) (V := V) (Po := Po) (Ti := Ti) (No := []) (F := Fam_code_writer_expr_2_at N m) (l := l3) (by omega) g3 (i := l1.length) (by omega)
      refine ⟨l4, fun k k1 => ?_, ?_, g4⟩
      · refine (dsp (.inl rfl) k k1).trans ?_
        unfold code_writer_both_2_d
        rw [at0, Option.bind_some, f1]
        unfold code_writer_both_2_c2
        rw [put2 (by omega), if_pos (by rfl), at1, Option.bind_some, f3]
        exact f4 _
      · show _ = _ + (a.len + b.len + (if (18 : Int) = 18 then 5 else _)); rw [if_pos rfl]; omega
    · rw [if_neg c18] at h3
      by_cases c19 : kd = 19
      · subst c19
        rw [if_pos rfl] at h3
        obtain ⟨l1, f1, n1, g1⟩ := iha m c h4 (by omega) (by omega) hc
        have g2 : NL (l1 ++ [(⟨24, 0, 0, []⟩ : Ins)]) := g1.app (by decide)
        have g22 : NL (l1 ++ [(⟨24, 0, 0, []⟩ : Ins)] ++ [(⟨1, 0, 1, []⟩ : Ins)]) := g2.app (by decide)
        have g23 : NL (l1 ++ [(⟨24, 0, 0, []⟩ : Ins)] ++ [(⟨1, 0, 1, []⟩ : Ins)] ++ [(⟨23, 0, 0, []⟩ : Ins)]) := g22.app (by decide)
        have e1 : (l1 ++ [(⟨24, 0, 0, []⟩ : Ins)]).length = l1.length + 1 := by simp
        have e2 : (l1 ++ [(⟨24, 0, 0, []⟩ : Ins)] ++ [(⟨1, 0, 1, []⟩ : Ins)]).length = l1.length + 2 := by simp
        have e3 : (l1 ++ [(⟨24, 0, 0, []⟩ : Ins)] ++ [(⟨1, 0, 1, []⟩ : Ins)] ++ [(⟨23, 0, 0, []⟩ : Ins)]).length = l1.length + 3 := by simp
        obtain ⟨l2, a1, a2, a3⟩ := here2 (R := R) (N := N) (V := V) (Po := Po) (Ti := Ti) (No := []) (i := l1.length) (by omega) g23
        obtain ⟨l3, f3, n3, g3⟩ := ihb m l2 h5 (by omega) (by omega) a2
        obtain ⟨l4, n4, g4, f4⟩ := tail16 (R := R) (N := N) (V := V) (Po := Po) (Ti := Ti) (No := []) (F := Fam_code_writer_expr_2_at N m) (l := l3) (by omega) g3 (i := l1.length + 2) (by omega)
        refine ⟨l4, fun k k1 => ?_, ?_, g4⟩
        · refine (dsp (.inr rfl) k k1).trans ?_
          unfold code_writer_both_2_d
          rw [at0, Option.bind_some, f1]
          unfold code_writer_both_2_c2
          rw [put2 (by omega), if_neg (by decide)]
          unfold code_writer_both_2_c12
          rw [push2 (by omega), put2 (by omega), e2, a3, at1, Option.bind_some, f3]
          exact f4 _
        · show _ = _ + (a.len + b.len + (if (19 : Int) = 18 then 5 else if (19 : Int) = 19 then 7 else 1)); rw [if_neg (by decide), if_pos rfl]; omega
      · rw [if_neg c19] at h3
        obtain ⟨l1, f1, n1, g1⟩ := iha (m + 1) c h4 (by omega) (by omega) hc
        obtain ⟨l3, f3, n3, g3⟩ := ihb (m + 1) l1 h5 (by omega) (by omega) g1
        refine ⟨l3 ++ [⟨kd, 0, 0, []⟩], fun k k1 => ?_, ?_, g3.app (by simp only; omega)⟩
        · show code_writer_expr_2_d (Fam_code_writer_expr_2_at N (m + 1)) N kd 0 [] [a.e, b.e] 0 V Po Ti [] c k k1 = _
          unfold code_writer_expr_2_d
          rw [if_neg (by simp; omega), if_neg (by simp; omega), if_neg (by simp; omega), if_neg (by simp; omega), if_neg (by simp; omega)]
          unfold code_writer_expr_2_c18
          rw [if_neg (by simp; omega)]
          obtain ⟨q, rfl⟩ := hN3
          simp only [code_writer_expr_2_l1, code_writer_expr_2_l1_b]
          rw [if_pos (by simp), at0, Option.bind_some, f1, show IntKind.wrap .i64 (0 + 1) = 1 from rfl, if_pos (by simp), at1, Option.bind_some, f3, show IntKind.wrap .i64 (1 + 1) = 2 from rfl, if_neg (by simp), cop (by omega) (by omega), put2 (by omega)]
        · rw [List.length_append]; show l3.length + 1 = _ + (a.len + b.len + (if kd = 18 then 5 else if kd = 19 then 7 else 1)); rw [if_neg c18, if_neg c19]; omega
end
end Ef

