/- EffectHolds: a block's code, both ways: the program's has the reference's skeleton, the reference's holds its acts. -/
import Derived.Test.YtfpfmibcnldepaaGreatEG
set_option maxRecDepth 100000
set_option linter.unusedVariables false
set_option linter.unusedSimpArgs false
set_option linter.unusedSectionVars false
namespace Ef
open Go TE Go.Proofs
structure Ext (c l : List Ins) : Prop where
  pre : l.take c.length = c
  le : c.length ≤ l.length
theorem Ext.get {c l : List Ins} (h : Ext c l) {i : Nat} (hi : i < c.length) : l[i]? = c[i]? := by
  have := congrArg (fun x : List Ins => x[i]?) h.pre
  simp only [List.getElem?_take, hi, if_true] at this
  exact this
theorem Ext.trans {a b c : List Ins} (h : Ext a b) (h2 : Ext b c) : Ext a c := by
  refine ⟨?_, Nat.le_trans h.le h2.le⟩
  have : (c.take b.length).take a.length = a := by rw [h2.pre, h.pre]
  rwa [List.take_take, Nat.min_eq_left h.le] at this
theorem Ext.app (c : List Ins) (x : List Ins) : Ext c (c ++ x) := ⟨List.take_left, by simp⟩
theorem G.ext {c l : List Ins} (h : G c l) : Ext c l := ⟨h.pre, h.le⟩
theorem G.ones {c l : List Ins} (h : G c l) {n : Nat} (hn : l.length = c.length + n) : Is l c.length (Sk.ones n) :=
  Is.ones fun i h1 h2 => by
    obtain ⟨x, hx, _⟩ := drop_cons (l := l) (i := i) (by omega)
    exact ⟨x, hx, h.own i x h1 hx⟩
def XC (c : List Ins) (bd : Bool) (p q : Nat) : Prop := ∀ (i : Nat) (x : Ins), p ≤ i → i < q → c[i]? = some x → opok bd x.Op ∧ ((x.Op = 23 ∨ x.Op = 24) → (i : Int) < x.A ∧ x.A ≤ (q : Int))
theorem XC.congr {c c' : List Ins} {bd : Bool} {p q : Nat} (h : ∀ i, p ≤ i → i < q → c[i]? = c'[i]?) (hx : XC c bd p q) : XC c' bd p q := fun i x h1 h2 h3 => hx i x h1 h2 (by rw [h i h1 h2]; exact h3)
theorem H.xc {c l : List Ins} {bd : Bool} (h : H c l bd (fun _ => False)) : XC l bd c.length l.length := fun i x h1 _ h3 => ⟨(h.own i x h1 h3).1, fun q => ((h.own i x h1 h3).2 q).resolve_left id⟩
/-- An act's code. -/
def AC (fl : List Expr → Bool) (pt : List (List UInt8)) (c : List Ins) (rec : List Act → Sk → Nat → Prop) (a : Act) (s : Sk) (p : Nat) : Prop :=
  (1 ≤ a.Kind ∧ a.Kind ≤ 5 ∧ ∃ n, s = .ones (n + 1) ∧ XC c (fl a.X) p (p + n) ∧ ∃ x, c[p + n]? = some x ∧ x.Op = 17 + a.Kind ∧ (a.Kind = 2 → x.S = a.Event) ∧ (a.Kind = 3 → x.S = a.Event ∧ x.A = idxS pt a.Name 0)) ∨
  (a.Kind = 7 ∧ ∃ n b, s = .loop n b .nil ∧ a.N = (n : Int) ∧ 1 ≤ n ∧ n ≤ 4 ∧ (∃ x, c[p]? = some x ∧ x.Op = 25 ∧ x.N = (n : Int)) ∧ rec a.Then b (p + 1) ∧ ∃ y, c[p + 1 + b.len]? = some y ∧ y.Op = 26 ∧ y.A = (p : Int))
def LC (step : Act → Sk → Nat → Prop) : List Act → Sk → Nat → Prop
  | [], s, _ => s = .nil
  | a :: r, s, p => ∃ s1 s2, s = s1.app s2 ∧ step a s1 p ∧ LC step r s2 (p + s1.len)
/-- A block's code. -/
def BC (fl : List Expr → Bool) (pt : List (List UInt8)) (c : List Ins) : Nat → List Act → Sk → Nat → Prop
  | 0 => fun _ _ _ => False
  | d + 1 => LC (AC fl pt c (BC fl pt c d))
theorem AC.congr {fl : List Expr → Bool} {pt : List (List UInt8)} {c c' : List Ins} {rec rec' : List Act → Sk → Nat → Prop} (hr : ∀ l s p, (∀ i, p ≤ i → i < p + s.len → c[i]? = c'[i]?) → rec l s p → rec' l s p) {a : Act} {s : Sk} {p : Nat}
    (h : ∀ i, p ≤ i → i < p + s.len → c[i]? = c'[i]?) : AC fl pt c rec a s p → AC fl pt c' rec' a s p := by
  rintro (⟨h1, h2, n, rfl, h3, x, h4, h5⟩ | ⟨h1, n, b, rfl, h2, h3, h4, ⟨x, h5, h6⟩, h7, y, h8, h9⟩)
  · rw [Sk.len_ones] at h
    exact .inl ⟨h1, h2, n, rfl, h3.congr fun i q1 q2 => h i q1 (by omega), x, by rw [← h _ (by omega) (by omega)]; exact h4, h5⟩
  · simp only [Sk.len] at h
    exact .inr ⟨h1, n, b, rfl, h2, h3, h4, ⟨x, by rw [← h _ (by omega) (by omega)]; exact h5, h6⟩, hr _ _ _ (fun i q1 q2 => h i (by omega) (by omega)) h7, y, by rw [← h _ (by omega) (by omega)]; exact h8, h9⟩
theorem LC.congr {st st' : Act → Sk → Nat → Prop} {c c' : List Ins} (hs : ∀ a s p, (∀ i, p ≤ i → i < p + s.len → c[i]? = c'[i]?) → st a s p → st' a s p) : ∀ {l : List Act} {s : Sk} {p : Nat}, (∀ i, p ≤ i → i < p + s.len → c[i]? = c'[i]?) → LC st l s p → LC st' l s p
  | [], _, _, _, h => h
  | a :: r, s, p, h, ⟨s1, s2, e, h1, h2⟩ => by
    subst e
    rw [Sk.len_app] at h
    exact ⟨s1, s2, rfl, hs _ _ _ (fun i q1 q2 => h i q1 (by omega)) h1, LC.congr hs (fun i q1 q2 => h i (by omega) (by omega)) h2⟩
theorem BC.congr {fl : List Expr → Bool} {pt : List (List UInt8)} {c c' : List Ins} : ∀ {d : Nat} {l : List Act} {s : Sk} {p : Nat}, (∀ i, p ≤ i → i < p + s.len → c[i]? = c'[i]?) → BC fl pt c d l s p → BC fl pt c' d l s p := by
  intro d
  induction d with
  | zero => exact fun _ h => h.elim
  | succ d ih => exact fun h hb => LC.congr (fun a s p h1 h2 => AC.congr (fun l s p h3 h4 => ih h3 h4) h1 h2) h hb
theorem place16S {R : Type} {N : Nat} (hN : big ≤ N) (l : List (List UInt8)) (hl : l.length ≤ 1000) (s : List UInt8) (k : Int → Option R) : r16_place N l s k = k (idxS l s 0) := by
  have hb : big = 1000000000 := rfl
  have key : ∀ (n i : Nat), l.length < n + i → i ≤ l.length → r16_place_l0 N l s (k (-1)) k n (i : Int) = k (idxS (l.drop i) s (i : Int)) := by
    intro n
    induction n with
    | zero => intro i h1 h2; omega
    | succ n ih =>
      intro i h1 h2
      simp only [r16_place_l0, r16_place_l0_b]
      by_cases hi : i < l.length
      · obtain ⟨x, hx, hd⟩ := drop_cons hi
        rw [hd]
        simp only [idxS]
        by_cases he : x = s
        · rw [if_pos (by simpa using hi), at_nat, hx, Option.bind_some, if_pos (by simpa using he), if_pos he.symm]
        · rw [if_pos (by simpa using hi), at_nat, hx, Option.bind_some, if_neg (by simpa using he), if_neg (fun h => he h.symm), wr _ (by omega) (by omega)]
          exact ih (i + 1) (by omega) (by omega)
      · rw [if_neg (by simpa using hi), List.drop_eq_nil_of_le (by omega)]
        rfl
  exact key N 0 (by omega) (by omega)
section
variable {R R2 : Type} {N : Nat} (hN : big ≤ N) {V Po Ti : List (List UInt8)} (hV : V.length ≤ 1000) (hP : Po.length ≤ 1000) (hT : Ti.length ≤ 1000)
include hN hV hP hT
/-- The number of an act. -/
theorem num_ok {X : List Expr} (hX : xsOK X) : ∃ n, n ≤ 600 ∧
    (∀ (kd nn at_ : Int) (nm ev : List UInt8) (th el : List Act) (c : List Ins), c.length ≤ 900000 → ∃ l, (∀ k : List Ins → Option R, code_writer_number N kd nm ev X nn th el at_ V Po Ti [] c k = k l) ∧ l.length = c.length + n ∧ G c l) ∧
    (∀ (c : List Ins), c.length ≤ 900000 → ∃ l, (∀ k : List Ins → Option R2, r16_arg_2 N X V Po Ti [] c k = k l) ∧ l.length = c.length + n ∧ G c l ∧ XC l (flX N X) c.length l.length) := by
  have hb : big = 1000000000 := rfl
  have hm : maxRow = 68719476736 := rfl
  obtain ⟨N', hN'⟩ : ∃ q, N = q + 3 := ⟨N - 3, by omega⟩
  rcases hX with rfl | ⟨t, rfl, h1, h2⟩
  · refine ⟨1, by omega, fun kd nn at_ nm ev th el c hc => ⟨c ++ [⟨1, 0, 0, []⟩], fun k => ?_, by simp, (G.refl c).app (by simp)⟩, fun c hc => ⟨c ++ [⟨1, 0, 0, []⟩], fun k => ?_, by simp, (G.refl c).app (by simp), ?_⟩⟩
    rotate_left 2
    · refine H.xc (H.app (H.refl c _ (fun _ => False)) [_] (fun _ h => h) fun j y hy => ?_)
      cases j with
      | zero => cases hy; exact ⟨.inl ⟨by decide, by decide, fun _ => by decide⟩, fun q => by simp at q⟩
      | succ j => simp at hy
    · unfold code_writer_number
      rw [hN']
      show code_writer_push_2 (N' + 3) 0 V Po Ti [] c (fun r38 => k r38) = _
      rw [push2 (by omega)]
    · unfold r16_arg_2
      rw [if_pos (by simp), if_pos (by simp; omega)]
  · have hlen : t.len ≤ 512 := by
      have a1 := t.len_le
      have a2 : 8 ^ (t.dep + 1) ≤ 8 ^ 3 := Nat.pow_le_pow_right (by omega) (by omega)
      have a3 : 8 ^ 3 = 512 := by decide
      omega
    refine ⟨t.len, by omega, fun kd nn at_ nm ev th el c hc => ?_, fun c hc => ?_⟩
    · obtain ⟨l, f, n, g⟩ := cw_2G (R := R) (N := N) (V := V) (Po := Po) (Ti := Ti) (c0 := c) hN hV t N c h1 (by omega) (by omega) (G.refl c)
      refine ⟨l, fun k => ?_, n, g⟩
      unfold code_writer_number
      have hN2 : N = (N' + 2) + 1 := hN'
      have e0 : ∀ kp0 : List Ins → Option R, code_writer_number_l0 N [t.e] (([t.e].length : Nat) : Int) V Po Ti [] kd nm ev [t.e] nn th el at_ kp0 N 0 c = kp0 l := by
        intro kp0
        have e1 : code_writer_number_l0 N [t.e] (([t.e].length : Nat) : Int) V Po Ti [] kd nm ev [t.e] nn th el at_ kp0 (N' + 2 + 1) 0 c = kp0 l := by
          show code_writer_number_l0_b N [t.e] (([t.e].length : Nat) : Int) V Po Ti [] kd nm ev [t.e] nn th el at_ kp0 (code_writer_number_l0 N [t.e] (([t.e].length : Nat) : Int) V Po Ti [] kd nm ev [t.e] nn th el at_ kp0 (N' + 2)) 0 c = kp0 l
          unfold code_writer_number_l0_b
          rw [if_pos (by simp), show at? [t.e] 0 = some t.e from rfl, Option.bind_some]
          unfold code_writer_expr_2
          rw [f, wr _ (by omega) (by omega)]
          show code_writer_number_l0_b N [t.e] (([t.e].length : Nat) : Int) V Po Ti [] kd nm ev [t.e] nn th el at_ kp0 (code_writer_number_l0 N [t.e] (([t.e].length : Nat) : Int) V Po Ti [] kd nm ev [t.e] nn th el at_ kp0 (N' + 1)) (0 + 1) l = kp0 l
          unfold code_writer_number_l0_b
          rw [if_neg (by simp)]
        rwa [← hN2] at e1
      rw [e0]
      rw [if_neg (by simp)]
    · obtain ⟨l, f, n, g⟩ := c16_2 (R := R2) (N := N) hN (V := V) (Po := Po) (Ti := Ti) hV t N c h1 (by omega) (by omega)
      refine ⟨l, fun k => ?_, n, ⟨g.pre, g.le, fun i x hi hx => by
        have := (g.own i x hi hx).1
        rcases this with ⟨q1, q2, _⟩ | q | q <;> omega⟩, by rw [flX_one (by omega) h1 h2]; exact g.xc⟩
      unfold r16_arg_2
      rw [if_neg (by simp), show at? [t.e] 0 = some t.e from rfl, Option.bind_some]
      exact f k
/-- What an act's step makes: both ways. -/
def ActC (R R2 : Type) (N d : Nat) (V Po Ti : List (List UInt8)) (Fw : Fam_code_writer_block_2) (Fr : Fam_r16_block_2) (a : Act) (s : Sk) : Prop :=
  (∀ c : List Ins, c.length + s.len ≤ 900000 → ∃ l, (∀ k : List Ins → Option R, (if (a.Kind == 7) = true then Fw.code_writer_loop_2 R a.Kind a.Name a.Event a.X a.N a.Then a.Else a.At V Po Ti [] c k
    else if (a.Kind == 6) = true then Fw.code_writer_choice R a.Kind a.Name a.Event a.X a.N a.Then a.Else a.At V Po Ti [] c k
    else code_writer_act N a.Kind a.Name a.Event a.X a.N a.Then a.Else a.At V Po Ti [] c k) = k l) ∧ l.length = c.length + s.len ∧ Ext c l ∧ Is l c.length s) ∧
  (∀ c : List Ins, c.length + s.len ≤ 900000 → ∃ l, (∀ k : List Ins → Option R2, Fr.r16_act_2 R2 a.Kind a.Name a.Event a.X a.N a.Then a.Else a.At V Po Ti [] c k = k l) ∧ l.length = c.length + s.len ∧ Ext c l ∧ AC (flX N) Po l (BC (flX N) Po l d) a s c.length)
/-- What a block makes: both ways. -/
def BlkC (R R2 : Type) (N d : Nat) (V Po Ti : List (List UInt8)) (Fw : Fam_code_writer_block_2) (Fr : Fam_r16_block_2) (l : List Act) (s : Sk) : Prop :=
  (∀ c : List Ins, c.length + s.len ≤ 900000 → ∃ l', (∀ k : List Ins → Option R, Fw.code_writer_block_2 R l V Po Ti [] c k = k l') ∧ l'.length = c.length + s.len ∧ Ext c l' ∧ Is l' c.length s) ∧
  (∀ c : List Ins, c.length + s.len ≤ 900000 → ∃ l', (∀ k : List Ins → Option R2, Fr.r16_block_2 R2 l V Po Ti [] c k = k l') ∧ l'.length = c.length + s.len ∧ Ext c l' ∧ BC (flX N) Po l' d l s c.length)

theorem act5 {a : Act} (hX : xsOK a.X) (h1 : 1 ≤ a.Kind) (h5 : a.Kind ≤ 5) (Fw : Fam_code_writer_block_2) (e d : Nat) : ∃ s : Sk, s.len ≤ 700 ∧ s.most ≤ 700 ∧ ActC R R2 N d V Po Ti Fw (Fam_r16_block_2_at N (e + 1)) a s := by
  have hb : big = 1000000000 := rfl
  have hm : maxRow = 68719476736 := rfl
  obtain ⟨n, hn, hw, hr⟩ := num_ok (R := R) (R2 := R2) hN hV hP hT hX
  have k7 : ¬ (a.Kind == 7) = true := by simp; omega
  have k6 : ¬ (a.Kind == 6) = true := by simp; omega
  by_cases k5 : a.Kind = 5
  · refine ⟨.ones 1, by rw [Sk.len_ones]; omega, by rw [Sk.most_ones]; omega, fun c hc => ?_, fun c hc => ?_⟩
    · rw [Sk.len_ones] at hc ⊢
      obtain ⟨x, hx⟩ := index2 (R := R) hN Ti hT a.Name
      have g := (G.refl c).app (x := ⟨22, x, 0, []⟩) (by simp)
      refine ⟨c ++ [⟨22, x, 0, []⟩], fun k => ?_, by simp, g.ext, g.ones (by simp)⟩
      rw [if_neg k7, if_neg k6]
      unfold code_writer_act
      rw [if_neg (by simp [k5])]
      unfold code_writer_act_c3
      rw [if_neg (by simp [k5]), if_neg (by simp [k5]), if_neg (by simp [k5]), if_neg (by simp [k5]), if_pos (by simp [k5]), hx, put2 (by omega)]
    · rw [Sk.len_ones] at hc ⊢
      obtain ⟨x, hx⟩ := place16 (R := R2) hN Ti hT a.Name
      have g := (G.refl c).app (x := ⟨22, x, 0, []⟩) (by simp)
      refine ⟨c ++ [⟨22, x, 0, []⟩], fun k => ?_, by simp, g.ext, .inl ⟨h1, h5, 0, rfl, fun i y q1 q2 _ => by omega, ⟨22, x, 0, []⟩, by simp, by show (22 : Int) = _; omega, fun q => by omega, fun q => by omega⟩⟩
      show r16_act_2_d (Fam_r16_block_2_at N e) N a.Kind a.Name a.Event a.X a.N a.Then a.Else a.At V Po Ti [] c k = _
      unfold r16_act_2_d
      rw [if_neg (by simp [k5]), if_neg (by simp [k5]), if_neg (by simp [k5]), if_neg (by simp [k5]), if_pos (by simp [k5]), hx, if_pos (by simp; omega)]
  · refine ⟨.ones (n + 1), by rw [Sk.len_ones]; omega, by rw [Sk.most_ones]; omega, fun c hc => ?_, fun c hc => ?_⟩
    · rw [Sk.len_ones] at hc ⊢
      obtain ⟨l, f, hl, g⟩ := hw a.Kind a.N a.At a.Name a.Event a.Then a.Else c (by omega)
      obtain ⟨xV, hxV⟩ := index2 (R := R) hN V hV a.Name
      obtain ⟨xP, hxP⟩ := index2 (R := R) hN Po hP a.Name
      obtain ⟨xT, hxT⟩ := index2 (R := R) hN Ti hT a.Name
      have fin : ∀ x : Ins, x.Op ≠ 25 → (∀ k : List Ins → Option R, code_writer_act_c3 N V Po Ti [] l a.Kind a.Name a.Event a.X a.N a.Then a.Else a.At k = k (l ++ [x])) →
          ∃ l', (∀ k : List Ins → Option R, (if (a.Kind == 7) = true then Fw.code_writer_loop_2 R a.Kind a.Name a.Event a.X a.N a.Then a.Else a.At V Po Ti [] c k
    else if (a.Kind == 6) = true then Fw.code_writer_choice R a.Kind a.Name a.Event a.X a.N a.Then a.Else a.At V Po Ti [] c k
    else code_writer_act N a.Kind a.Name a.Event a.X a.N a.Then a.Else a.At V Po Ti [] c k) = k l') ∧ l'.length = c.length + (n + 1) ∧ Ext c l' ∧ Is l' c.length (.ones (n + 1)) := by
        intro x hx hk
        have g2 := g.app hx
        refine ⟨l ++ [x], fun k => ?_, by simp [hl]; omega, g2.ext, g2.ones (by simp [hl]; omega)⟩
        rw [if_neg k7, if_neg k6]
        unfold code_writer_act
        rw [if_pos (by simp [k5]), f]
        exact hk _
      by_cases k1 : a.Kind = 1
      · exact fin ⟨18, xV, 0, []⟩ (by simp) fun k => by unfold code_writer_act_c3; rw [if_pos (by simp [k1]), hxV, put2 (by omega)]
      by_cases k2 : a.Kind = 2
      · exact fin ⟨19, 0, 0, a.Event⟩ (by simp) fun k => by unfold code_writer_act_c3; rw [if_neg (by simp [k2]), if_pos (by simp [k2]), put2 (by omega)]
      by_cases k3 : a.Kind = 3
      · exact fin ⟨20, xP, 0, a.Event⟩ (by simp) fun k => by unfold code_writer_act_c3; rw [if_neg (by simp [k3]), if_neg (by simp [k3]), if_pos (by simp [k3]), hxP, put2 (by omega)]
      have k4 : a.Kind = 4 := by omega
      exact fin ⟨21, xT, 0, []⟩ (by simp) fun k => by unfold code_writer_act_c3; rw [if_neg (by simp [k4]), if_neg (by simp [k4]), if_neg (by simp [k4]), if_pos (by simp [k4]), hxT, put2 (by omega)]
    · rw [Sk.len_ones] at hc ⊢
      obtain ⟨l, f, hl, g, gx⟩ := hr c (by omega)
      obtain ⟨xV, hxV⟩ := place16 (R := R2) hN V hV a.Name
      have hxP := place16S (R := R2) hN Po hP a.Name
      obtain ⟨xT, hxT⟩ := place16 (R := R2) hN Ti hT a.Name
      have fin : ∀ x : Ins, (x.Op = 17 + a.Kind ∧ (a.Kind = 2 → x.S = a.Event) ∧ (a.Kind = 3 → x.S = a.Event ∧ x.A = idxS Po a.Name 0)) → (∀ k : List Ins → Option R2, r16_act_2_d (Fam_r16_block_2_at N e) N a.Kind a.Name a.Event a.X a.N a.Then a.Else a.At V Po Ti [] c k = k (l ++ [x])) →
          ∃ l', (∀ k : List Ins → Option R2, (Fam_r16_block_2_at N (e + 1)).r16_act_2 R2 a.Kind a.Name a.Event a.X a.N a.Then a.Else a.At V Po Ti [] c k = k l') ∧ l'.length = c.length + (n + 1) ∧ Ext c l' ∧ AC (flX N) Po l' (BC (flX N) Po l' d) a (.ones (n + 1)) c.length := by
        intro x hx hk
        have g2 := g.app (x := x) (by omega)
        refine ⟨l ++ [x], fun k => hk k, by simp [hl]; omega, g2.ext, .inl ⟨h1, h5, n, rfl, ?_, x, by rw [List.getElem?_append_right (by omega), hl]; simp, hx⟩⟩
        rw [hl] at gx
        exact gx.congr fun i q1 q2 => by rw [List.getElem?_append_left (by omega)]
      by_cases k1 : a.Kind = 1
      · exact fin ⟨18, xV, 0, []⟩ ⟨by show (18 : Int) = _; omega, fun q => by omega, fun q => by omega⟩ fun k => by unfold r16_act_2_d; rw [if_pos (by simp [k1]), f, hxV, if_pos (by simp; omega)]
      by_cases k2 : a.Kind = 2
      · exact fin ⟨19, 0, 0, a.Event⟩ ⟨by show (19 : Int) = _; omega, fun q => rfl, fun q => by omega⟩ fun k => by unfold r16_act_2_d; rw [if_neg (by simp [k2]), if_pos (by simp [k2]), f, if_pos (by simp; omega)]
      by_cases k3 : a.Kind = 3
      · exact fin ⟨20, idxS Po a.Name 0, 0, a.Event⟩ ⟨by show (20 : Int) = _; omega, fun q => rfl, fun q => ⟨rfl, rfl⟩⟩ fun k => by unfold r16_act_2_d; rw [if_neg (by simp [k3]), if_neg (by simp [k3]), if_pos (by simp [k3]), f, hxP, if_pos (by simp; omega)]
      have k4 : a.Kind = 4 := by omega
      exact fin ⟨21, xT, 0, []⟩ ⟨by show (21 : Int) = _; omega, fun q => by omega, fun q => by omega⟩ fun k => by unfold r16_act_2_d; rw [if_neg (by simp [k4]), if_neg (by simp [k4]), if_neg (by simp [k4]), if_pos (by simp [k4]), f, hxT, if_pos (by simp; omega)]
/-- A loop. -/
theorem act7 {a : Act} (k7 : a.Kind = 7) {n : Nat} (hn : a.N = (n : Int)) (h1 : 1 ≤ n) (h4 : n ≤ 4) {b : Sk} {m e d : Nat} (hB : BlkC R R2 N d V Po Ti (Fam_code_writer_block_2_at N m) (Fam_r16_block_2_at N e) a.Then b) :
    ActC R R2 N d V Po Ti (Fam_code_writer_block_2_at N (m + 1)) (Fam_r16_block_2_at N (e + 1)) a (.loop n b .nil) := by
  have hb : big = 1000000000 := rfl
  have hm : maxRow = 68719476736 := rfl
  have fin : ∀ (c l3 : List Ins), l3.length = c.length + 1 + b.len → Ext (c ++ [⟨25, 0, a.N, []⟩]) l3 → Is l3 (c.length + 1) b →
      l3[c.length]? = some ⟨25, 0, a.N, []⟩ ∧ ∃ l', l' = (l3 ++ [(⟨26, (c.length : Int), 0, []⟩ : Ins)]).set c.length ⟨25, (((l3 ++ [(⟨26, (c.length : Int), 0, []⟩ : Ins)]).length : Nat) : Int), a.N, []⟩ ∧ l'.length = c.length + (Sk.loop n b .nil).len ∧ Ext c l' ∧ Is l' c.length (.loop n b .nil) := by
    intro c l3 hl hx hi
    have e0 : l3[c.length]? = some ⟨25, 0, a.N, []⟩ := by rw [hx.get (by simp)]; simp
    refine ⟨e0, _, rfl, by simp [Sk.len, hl]; omega, ?_, ?_⟩
    · have h2 := (Ext.app c [(⟨25, 0, a.N, []⟩ : Ins)]).trans (hx.trans (Ext.app l3 [(⟨26, (c.length : Int), 0, []⟩ : Ins)]))
      exact ⟨by rw [List.take_set_of_le (Nat.le_refl _)]; exact h2.pre, by rw [List.length_set]; exact h2.le⟩
    · have hl4 : (l3 ++ [(⟨26, (c.length : Int), 0, []⟩ : Ins)]).length = c.length + 2 + b.len := by simp [hl]; omega
      refine ⟨⟨_, List.getElem?_set_self (by omega), rfl, hn, by rw [hl4]⟩, h1, ?_, ⟨⟨26, (c.length : Int), 0, []⟩, ?_, by simp⟩, trivial⟩
      · refine Is.congr (fun i h3 h4 => ?_) hi
        rw [List.getElem?_set_ne (by omega), List.getElem?_append_left (by omega)]
      · rw [List.getElem?_set_ne (by omega), List.getElem?_append_right (by omega), hl]
        simp
  have fin' : ∀ (c l3 : List Ins), l3.length = c.length + 1 + b.len → Ext (c ++ [⟨25, 0, a.N, []⟩]) l3 → BC (flX N) Po l3 d a.Then b (c.length + 1) →
      l3[c.length]? = some ⟨25, 0, a.N, []⟩ ∧ ∃ l', l' = (l3 ++ [(⟨26, (c.length : Int), 0, []⟩ : Ins)]).set c.length ⟨25, (((l3 ++ [(⟨26, (c.length : Int), 0, []⟩ : Ins)]).length : Nat) : Int), a.N, []⟩ ∧ l'.length = c.length + (Sk.loop n b .nil).len ∧ Ext c l' ∧ AC (flX N) Po l' (BC (flX N) Po l' d) a (.loop n b .nil) c.length := by
    intro c l3 hl hx hi
    have e0 : l3[c.length]? = some ⟨25, 0, a.N, []⟩ := by rw [hx.get (by simp)]; simp
    refine ⟨e0, _, rfl, by simp [Sk.len, hl]; omega, ?_, ?_⟩
    · have h2 := (Ext.app c [(⟨25, 0, a.N, []⟩ : Ins)]).trans (hx.trans (Ext.app l3 [(⟨26, (c.length : Int), 0, []⟩ : Ins)]))
      exact ⟨by rw [List.take_set_of_le (Nat.le_refl _)]; exact h2.pre, by rw [List.length_set]; exact h2.le⟩
    · have hl4 : (l3 ++ [(⟨26, (c.length : Int), 0, []⟩ : Ins)]).length = c.length + 2 + b.len := by simp [hl]; omega
      refine .inr ⟨k7, n, b, rfl, hn, h1, h4, ⟨_, List.getElem?_set_self (by omega), rfl, hn⟩, ?_, ⟨26, (c.length : Int), 0, []⟩, ?_, rfl, rfl⟩
      · refine BC.congr (fun i h3 h4 => ?_) hi
        rw [List.getElem?_set_ne (by omega), List.getElem?_append_left (by omega)]
      · rw [List.getElem?_set_ne (by omega), List.getElem?_append_right (by omega), hl]
        simp
  refine ⟨fun c hc => ?_, fun c hc => ?_⟩
  · simp only [Sk.len] at hc
    obtain ⟨l3, f3, n3, x3, i3⟩ := hB.1 (c ++ [⟨25, 0, a.N, []⟩]) (by simp; omega)
    simp only [List.length_append, List.length_cons, List.length_nil, Nat.zero_add] at n3 i3
    obtain ⟨e0, l', el, nl, xl, il⟩ := fin c l3 n3 x3 i3
    refine ⟨l', fun k => ?_, nl, xl, il⟩
    rw [if_pos (by simp [k7])]
    show code_writer_loop_2_d (Fam_code_writer_block_2_at N m) N a.Kind a.Name a.Event a.X a.N a.Then a.Else a.At V Po Ti [] c k = _
    unfold code_writer_loop_2_d
    rw [put2 (by omega), f3, put2 (by omega)]
    unfold code_writer_here
    have hc4 : (l3 ++ [(⟨26, (c.length : Int), 0, []⟩ : Ins)]).length = l3.length + 1 := by simp
    rw [if_pos ⟨by omega, by rw [hc4]; omega⟩, Int.toNat_natCast, List.getElem?_append_left (by omega), e0, el]
  · simp only [Sk.len] at hc
    obtain ⟨l3, f3, n3, x3, i3⟩ := hB.2 (c ++ [⟨25, 0, a.N, []⟩]) (by simp; omega)
    simp only [List.length_append, List.length_cons, List.length_nil, Nat.zero_add] at n3 i3
    obtain ⟨e0, l', el, nl, xl, il⟩ := fin' c l3 n3 x3 i3
    refine ⟨l', fun k => ?_, nl, xl, il⟩
    show r16_act_2_d (Fam_r16_block_2_at N e) N a.Kind a.Name a.Event a.X a.N a.Then a.Else a.At V Po Ti [] c k = _
    unfold r16_act_2_d
    rw [if_neg (by simp [k7]), if_neg (by simp [k7]), if_neg (by simp [k7]), if_neg (by simp [k7]), if_neg (by simp [k7]), if_pos (by simp [k7]), if_pos (by simp; omega), f3, if_pos (by simp; omega)]
    have hc4 : (l3 ++ [(⟨26, (c.length : Int), 0, []⟩ : Ins)]).length = l3.length + 1 := by simp
    rw [if_pos ⟨by omega, by rw [hc4]; omega⟩, Int.toNat_natCast, List.getElem?_append_left (by omega), e0, el]
/-- Acts one behind another. -/
theorem list_ok {Fw : Fam_code_writer_block_2} {Fr : Fam_r16_block_2} {B M d : Nat} {l : List Act} (hl : l.length ≤ 2) (ha : ∀ a ∈ l, ∃ s : Sk, s.len ≤ B ∧ s.most ≤ M ∧ ActC R R2 N d V Po Ti Fw Fr a s) :
    ∀ (j i : Nat), i + j = l.length → ∃ s : Sk, s.len ≤ j * B ∧ s.most ≤ j * M ∧
      (∀ (n : Nat) (c : List Ins), j < n → c.length + s.len ≤ 900000 → ∃ l', (∀ k : List Ins → Option R, code_writer_block_2_l0 Fw N l ((l.length : Nat) : Int) V Po Ti [] k n (i : Int) c = k l') ∧ l'.length = c.length + s.len ∧ Ext c l' ∧ Is l' c.length s) ∧
      (∀ (n : Nat) (c : List Ins), j < n → c.length + s.len ≤ 900000 → ∃ l', (∀ k : List Ins → Option R2, r16_block_2_l0 Fr N l V Po Ti [] k n (i : Int) c = k l') ∧ l'.length = c.length + s.len ∧ Ext c l' ∧ BC (flX N) Po l' (d + 1) (l.drop i) s c.length)
  | 0, i, h => by
    refine ⟨.nil, by simp [Sk.len], by simp [Sk.most], fun n c hn hc => ⟨c, fun k => ?_, by simp [Sk.len], ⟨List.take_length, Nat.le_refl _⟩, trivial⟩, fun n c hn hc => ⟨c, fun k => ?_, by simp [Sk.len], ⟨List.take_length, Nat.le_refl _⟩, by rw [List.drop_eq_nil_of_le (by omega)]; rfl⟩⟩
    · obtain ⟨n, rfl⟩ : ∃ q, n = q + 1 := ⟨n - 1, by omega⟩
      show code_writer_block_2_l0_b Fw N l ((l.length : Nat) : Int) V Po Ti [] k (code_writer_block_2_l0 Fw N l ((l.length : Nat) : Int) V Po Ti [] k n) (i : Int) c = k c
      unfold code_writer_block_2_l0_b
      rw [if_neg (by simp; omega)]
    · obtain ⟨n, rfl⟩ : ∃ q, n = q + 1 := ⟨n - 1, by omega⟩
      show r16_block_2_l0_b Fr N l V Po Ti [] k (r16_block_2_l0 Fr N l V Po Ti [] k n) (i : Int) c = k c
      unfold r16_block_2_l0_b
      rw [if_neg (by simp; omega)]
  | j + 1, i, h => by
    obtain ⟨a, hai, hdr⟩ := drop_cons (l := l) (i := i) (by omega)
    obtain ⟨s1, b1, m1, w1, r1⟩ := ha a (get_mem hai)
    obtain ⟨s2, b2, m2, w2, r2⟩ := list_ok hl ha j (i + 1) (by omega)
    have hw : IntKind.wrap .i64 ((i : Int) + 1) = ((i + 1 : Nat) : Int) := by rw [wr _ (by omega) (by omega)]; omega
    have join : ∀ (c l1 l2 : List Ins), l1.length = c.length + s1.len → Ext c l1 → Is l1 c.length s1 → l2.length = l1.length + s2.len → Ext l1 l2 → Is l2 l1.length s2 →
        l2.length = c.length + (s1.app s2).len ∧ Ext c l2 ∧ Is l2 c.length (s1.app s2) := by
      intro c l1 l2 n1 x1 i1 n2 x2 i2
      refine ⟨by rw [Sk.len_app]; omega, x1.trans x2, Is.app (Is.congr (fun q h3 h4 => (x2.get (by omega)).symm) i1) (by rw [← n1]; exact i2)⟩
    refine ⟨s1.app s2, by rw [Sk.len_app, Nat.succ_mul]; omega, by rw [Sk.most_app, Nat.succ_mul]; omega, fun n c hn hc => ?_, fun n c hn hc => ?_⟩
    · rw [Sk.len_app] at hc
      obtain ⟨n, rfl⟩ : ∃ q, n = q + 1 := ⟨n - 1, by omega⟩
      obtain ⟨l1, f1, n1, x1, i1⟩ := w1 c (by omega)
      obtain ⟨l2, f2, n2, x2, i2⟩ := w2 n l1 (by omega) (by omega)
      obtain ⟨j1, j2, j3⟩ := join c l1 l2 n1 x1 i1 n2 x2 i2
      refine ⟨l2, fun k => ?_, j1, j2, j3⟩
      show code_writer_block_2_l0_b Fw N l ((l.length : Nat) : Int) V Po Ti [] k (code_writer_block_2_l0 Fw N l ((l.length : Nat) : Int) V Po Ti [] k n) (i : Int) c = k l2
      unfold code_writer_block_2_l0_b
      rw [if_pos (by simp; omega), at_nat, hai, Option.bind_some, hw]
      refine (f1 _).trans ?_
      exact f2 k
    · rw [Sk.len_app] at hc
      obtain ⟨n, rfl⟩ : ∃ q, n = q + 1 := ⟨n - 1, by omega⟩
      obtain ⟨l1, f1, n1, x1, i1⟩ := r1 c (by omega)
      obtain ⟨l2, f2, n2, x2, i2⟩ := r2 n l1 (by omega) (by omega)
      refine ⟨l2, fun k => ?_, by rw [Sk.len_app]; omega, x1.trans x2, ?_⟩
      rotate_left
      · rw [hdr]
        exact ⟨s1, s2, rfl, AC.congr (fun l s p q1 q2 => BC.congr q1 q2) (fun q h3 h4 => (x2.get (by omega)).symm) i1, by rw [← n1]; exact i2⟩
      show r16_block_2_l0_b Fr N l V Po Ti [] k (r16_block_2_l0 Fr N l V Po Ti [] k n) (i : Int) c = k l2
      unfold r16_block_2_l0_b
      rw [if_pos (by simp; omega), at_nat, hai, Option.bind_some, hw, f1]
      exact f2 k
def Bl : Nat → Nat
  | 0 => 1400
  | d + 1 => 2 * (Bl d + 702)
def Bm : Nat → Nat
  | 0 => 1400
  | d + 1 => 2 * (4 * (Bm d + 1) + 701)
theorem acts_list {d m e : Nat} (ih : ∀ d', d = d' + 1 → ∀ l, BOK d' l → ∃ s : Sk, s.len ≤ Bl d' ∧ s.most ≤ Bm d' ∧ BlkC R R2 N (d' + 1) V Po Ti (Fam_code_writer_block_2_at N m) (Fam_r16_block_2_at N e) l s) {l : List Act} (hl : BOK d l) :
    ∃ B M, 2 * B ≤ Bl d ∧ 2 * M ≤ Bm d ∧ ∀ a ∈ l, ∃ s : Sk, s.len ≤ B ∧ s.most ≤ M ∧ ActC R R2 N d V Po Ti (Fam_code_writer_block_2_at N (m + 1)) (Fam_r16_block_2_at N (e + 1)) a s := by
  obtain ⟨h1, h2⟩ := BOK_iff.1 hl
  cases d with
  | zero =>
    refine ⟨700, 700, by simp [Bl], by simp [Bm], fun a ha => ?_⟩
    obtain ⟨x, _, y⟩ := h2 a ha
    rcases y with ⟨y1, y2, _⟩ | ⟨_, _, _, _, y⟩
    · exact act5 hN hV hP hT x y1 y2 _ e _
    · exact y.elim
  | succ d =>
    refine ⟨Bl d + 702, 4 * (Bm d + 1) + 701, by simp [Bl], by simp [Bm], fun a ha => ?_⟩
    obtain ⟨x, _, y⟩ := h2 a ha
    rcases y with ⟨y1, y2, _⟩ | ⟨k7, _, n1, n4, y⟩
    · obtain ⟨s, g1, g2, g3⟩ := act5 (R := R) (R2 := R2) hN hV hP hT x y1 y2 (Fam_code_writer_block_2_at N (m + 1)) e _
      exact ⟨s, by omega, by omega, g3⟩
    · obtain ⟨s, g1, g2, g3⟩ := ih d rfl a.Then y
      obtain ⟨n, hn⟩ : ∃ n : Nat, a.N = (n : Int) := ⟨a.N.toNat, by omega⟩
      refine ⟨.loop n s .nil, by simp only [Sk.len]; omega, ?_, act7 hN hV hP hT k7 hn (by omega) (by omega) g3⟩
      simp only [Sk.most]
      have : n * (s.most + 1) ≤ 4 * (Bm d + 1) := Nat.mul_le_mul (by omega) (by omega)
      omega
theorem blk_ok : ∀ (d m e : Nat), 2 * d + 2 ≤ m → 2 * d + 2 ≤ e → ∀ l, BOK d l → ∃ s : Sk, s.len ≤ Bl d ∧ s.most ≤ Bm d ∧ BlkC R R2 N (d + 1) V Po Ti (Fam_code_writer_block_2_at N m) (Fam_r16_block_2_at N e) l s := by
  intro d
  have hb : big = 1000000000 := rfl
  induction d with
  | zero =>
    intro m e hm he l hl
    obtain ⟨m, rfl⟩ : ∃ q, m = q + 2 := ⟨m - 2, by omega⟩
    obtain ⟨e, rfl⟩ : ∃ q, e = q + 2 := ⟨e - 2, by omega⟩
    obtain ⟨B, M, hB, hM, ha⟩ := acts_list (R := R) (R2 := R2) hN hV hP hT (m := m) (e := e) (fun d' h => by omega) hl
    have h2 := (BOK_iff.1 hl).1
    obtain ⟨s, s1, s2, s3, s4⟩ := list_ok (R := R) (R2 := R2) hN hV hP hT h2 ha l.length 0 (by omega)
    have q1 : l.length * B ≤ 2 * B := Nat.mul_le_mul_right _ h2
    have q2 : l.length * M ≤ 2 * M := Nat.mul_le_mul_right _ h2
    refine ⟨s, by omega, by omega, fun c hc => ?_, fun c hc => ?_⟩
    · obtain ⟨l', f, r⟩ := s3 N c (by omega) hc
      exact ⟨l', fun k => f k, r⟩
    · obtain ⟨l', f, r⟩ := s4 N c (by omega) hc
      exact ⟨l', fun k => f k, r⟩
  | succ d ih =>
    intro m e hm he l hl
    obtain ⟨m, rfl⟩ : ∃ q, m = q + 2 := ⟨m - 2, by omega⟩
    obtain ⟨e, rfl⟩ : ∃ q, e = q + 2 := ⟨e - 2, by omega⟩
    obtain ⟨B, M, hB, hM, ha⟩ := acts_list (R := R) (R2 := R2) hN hV hP hT (m := m) (e := e) (fun d' h l hl => by cases h; exact ih m e (by omega) (by omega) l hl) hl
    have h2 := (BOK_iff.1 hl).1
    obtain ⟨s, s1, s2, s3, s4⟩ := list_ok (R := R) (R2 := R2) hN hV hP hT h2 ha l.length 0 (by omega)
    have q1 : l.length * B ≤ 2 * B := Nat.mul_le_mul_right _ h2
    have q2 : l.length * M ≤ 2 * M := Nat.mul_le_mul_right _ h2
    refine ⟨s, by omega, by omega, fun c hc => ?_, fun c hc => ?_⟩
    · obtain ⟨l', f, r⟩ := s3 N c (by omega) hc
      exact ⟨l', fun k => f k, r⟩
    · obtain ⟨l', f, r⟩ := s4 N c (by omega) hc
      exact ⟨l', fun k => f k, r⟩
end
abbrev RunT (R : Type) := Int → Int → List Int → List Msg → List Effc → List Int → List Int → Option R
noncomputable def disp {R : Type} (N : Nat) (c_1 : List Ins) (fuel_2 v_3 v_4 v_5 r_6 r_8 r_9 : Int) (kp1 : Int → Int → (List Int) → (List Msg) → (List Effc) → Option R) (rec : RunT R) (e17 : Ins) (r_7 r_10 : Int) (o_11 : List Int) (o_12 : List Msg) (o_13 : List Effc) (o_14 o_15 : List Int) : Option R :=
  if (decide (e17.Op < 18)) = true then
    (r17_running_reckon_4 N e17.Op e17.A e17.N e17.S r_6 (IntKind.wrap .i64 (r_7 + 1)) r_8 r_9 (IntKind.wrap .i64 (r_10 + 1)) o_11 o_12 o_13 o_14 o_15 (fun (r18 : Int) (r19 : List Int) =>
    r17_Run_c15 N c_1 fuel_2 r18 v_3 v_4 v_5 r_6 (IntKind.wrap .i64 (r_7 + 1)) r_8 r_9 (IntKind.wrap .i64 (r_10 + 1)) o_11 o_12 o_13 r19 o_15 (kp1 (IntKind.wrap .i64 (r_7 + 1)) r18 o_11 o_12 o_13)
      (rec (IntKind.wrap .i64 (r_7 + 1)) (IntKind.wrap .i64 (r_10 + 1)) o_11 o_12 o_13 r19 o_15)) (fun (r36 : Int) (r37 : List Int) =>
    r17_Run_c15 N c_1 fuel_2 r36 v_3 v_4 v_5 r_6 (IntKind.wrap .i64 (r_7 + 1)) r_8 r_9 (IntKind.wrap .i64 (r_10 + 1)) o_11 o_12 o_13 r37 o_15 (kp1 (IntKind.wrap .i64 (r_7 + 1)) r36 o_11 o_12 o_13)
      (rec (IntKind.wrap .i64 (r_7 + 1)) (IntKind.wrap .i64 (r_10 + 1)) o_11 o_12 o_13 r37 o_15)))
  else
    (if (decide (e17.Op ≤ 22)) = true then
      (r17_running_act_4 N e17.Op e17.A e17.N e17.S r_6 (IntKind.wrap .i64 (r_7 + 1)) r_8 r_9 (IntKind.wrap .i64 (r_10 + 1)) o_11 o_12 o_13 o_14 o_15 (fun (r38 : Int) (r39 : List Int) (r40 : List Int) =>
      r17_Run_c15 N c_1 fuel_2 r38 v_3 v_4 v_5 r_6 (IntKind.wrap .i64 (r_7 + 1)) r_8 r_9 (IntKind.wrap .i64 (r_10 + 1)) r39 o_12 o_13 r40 o_15 (kp1 (IntKind.wrap .i64 (r_7 + 1)) r38 r39 o_12 o_13)
        (rec (IntKind.wrap .i64 (r_7 + 1)) (IntKind.wrap .i64 (r_10 + 1)) r39 o_12 o_13 r40 o_15)) (fun (r41 : Int) (r42 : List Msg) (r43 : List Int) =>
      r17_Run_c15 N c_1 fuel_2 r41 v_3 v_4 v_5 r_6 (IntKind.wrap .i64 (r_7 + 1)) r_8 r_9 (IntKind.wrap .i64 (r_10 + 1)) o_11 r42 o_13 r43 o_15 (kp1 (IntKind.wrap .i64 (r_7 + 1)) r41 o_11 r42 o_13)
        (rec (IntKind.wrap .i64 (r_7 + 1)) (IntKind.wrap .i64 (r_10 + 1)) o_11 r42 o_13 r43 o_15)) (fun (r44 : Int) (r45 : List Effc) (r46 : List Int) =>
      r17_Run_c15 N c_1 fuel_2 r44 v_3 v_4 v_5 r_6 (IntKind.wrap .i64 (r_7 + 1)) r_8 r_9 (IntKind.wrap .i64 (r_10 + 1)) o_11 o_12 r45 r46 o_15 (kp1 (IntKind.wrap .i64 (r_7 + 1)) r44 o_11 o_12 r45)
        (rec (IntKind.wrap .i64 (r_7 + 1)) (IntKind.wrap .i64 (r_10 + 1)) o_11 o_12 r45 r46 o_15)))
    else
      (r17_running_move_3 N e17.Op e17.A e17.N e17.S r_6 (IntKind.wrap .i64 (r_7 + 1)) r_8 r_9 (IntKind.wrap .i64 (r_10 + 1)) o_11 o_12 o_13 o_14 o_15 (fun (r47 : Int) (r48 : List Int) =>
      r17_Run_c15 N c_1 fuel_2 0 v_3 v_4 v_5 r_6 (IntKind.wrap .i64 (r_7 + 1)) r_8 r_9 r47 o_11 o_12 o_13 o_14 r48 (kp1 (IntKind.wrap .i64 (r_7 + 1)) 0 o_11 o_12 o_13)
        (rec (IntKind.wrap .i64 (r_7 + 1)) r47 o_11 o_12 o_13 o_14 r48)) (fun (r49 : Int) (r50 : List Int) =>
      r17_Run_c15 N c_1 fuel_2 0 v_3 v_4 v_5 r_6 (IntKind.wrap .i64 (r_7 + 1)) r_8 r_9 r49 o_11 o_12 o_13 r50 o_15 (kp1 (IntKind.wrap .i64 (r_7 + 1)) 0 o_11 o_12 o_13)
        (rec (IntKind.wrap .i64 (r_7 + 1)) r49 o_11 o_12 o_13 r50 o_15)) (fun (r51 : List Int) =>
      r17_Run_c15 N c_1 fuel_2 0 v_3 v_4 v_5 r_6 (IntKind.wrap .i64 (r_7 + 1)) r_8 r_9 (IntKind.wrap .i64 (r_10 + 1)) o_11 o_12 o_13 o_14 r51 (kp1 (IntKind.wrap .i64 (r_7 + 1)) 0 o_11 o_12 o_13)
        (rec (IntKind.wrap .i64 (r_7 + 1)) (IntKind.wrap .i64 (r_10 + 1)) o_11 o_12 o_13 o_14 r51))))
def isR (m : Mark) : Bool := decide (m.Port < 0)
/-- What was raised and sent is the row w. -/
def TrR (Ra : List Msg) (Fx : List Effc) (w : MR) : Prop :=
  w.filter isR = Ra.map (fun x => ⟨-1, x.Event⟩) ∧ w.filter (fun m => !isR m) = (Fx.filter (fun x => x.Kind == 1)).map (fun x => ⟨x.A, x.Msg.Event⟩)
section
variable {R : Type} {N : Nat} {P : R → Prop} {c : List Ins} {fuel v3 v4 v5 r6 r8 r9 : Int} {kp0 : Int → Int → List Int → List Msg → List Effc → List Int → List Int → Option R} {kp1 : Int → Int → List Int → List Msg → List Effc → Option R}
/-- What the run's way out takes. -/
structure Cx (P : R → Prop) (N : Nat) (c : List Ins) (fuel : Int) (kp1 : Int → Int → List Int → List Msg → List Effc → Option R) (TT FF : List MR) (Mt : Nat) : Prop where
  hN : 1000000 < N
  hc : c.length ≤ 900000
  hM : Mt ≤ 900000
  fail : ∀ co cd Vars Ra Fx w, cd ≠ 0 → TrR Ra Fx w → Ra.length ≤ 1000000 → Fx.length ≤ 1000000 → (w ∈ FF ∨ (fuel < (Mt : Int) ∧ ∃ t ∈ TT, w <+: t)) → Ok P (kp1 co cd Vars Ra Fx)
/-- From the place q, with at most B instructions done, all is well. -/
def GoAt (P : R → Prop) (N : Nat) (run : Nat → RunT R) (q B : Nat) (rounds : List Int) (w : MR) : Prop :=
  ∀ (n co : Nat) (Vars : List Int) (Ra : List Msg) (Fx : List Effc) (row : List Int), n + co = N → co ≤ B → row.length ≤ co → Ra.length ≤ co → Fx.length ≤ co → TrR Ra Fx w → Ok P (run n (co : Int) (q : Int) Vars Ra Fx row rounds)
theorem GoAt.le {run : Nat → RunT R} {q B B' : Nat} {rounds : List Int} {w : MR} (h : GoAt P N run q B rounds w) (hB : B' ≤ B) : GoAt P N run q B' rounds w := fun n co Vars Ra Fx row h1 h2 => h n co Vars Ra Fx row h1 (by omega)
variable {TT FF : List MR} {Mt : Nat}
noncomputable abbrev runc (N : Nat) (c : List Ins) (fuel v3 v4 v5 r6 r8 r9 : Int) (kp0 : Int → Int → List Int → List Msg → List Effc → List Int → List Int → Option R) (kp1 : Int → Int → List Int → List Msg → List Effc → Option R) : Nat → RunT R := r17_Run_l0 N c fuel v3 v4 v5 r6 r8 r9 kp0 kp1
theorem step_ok (X : Cx P N c fuel kp1 TT FF Mt) {i : Nat} {x : Ins} (hx : c[i]? = some x) {rounds : List Int} {w : MR} (hw : ∃ t ∈ TT, w <+: t) {n co : Nat} {Vars : List Int} {Ra : List Msg} {Fx : List Effc} {row : List Int}
    (hn : n + co = N) (hco : co < Mt) (l2 : Ra.length ≤ co) (l3 : Fx.length ≤ co) (tr : TrR Ra Fx w)
    (k : ∀ n', n' + (co + 1) = N → Ok P (disp N c fuel v3 v4 v5 r6 r8 r9 kp1 (runc N c fuel v3 v4 v5 r6 r8 r9 kp0 kp1 n') x (co : Int) (i : Int) Vars Ra Fx row rounds)) :
    Ok P (runc N c fuel v3 v4 v5 r6 r8 r9 kp0 kp1 n (co : Int) (i : Int) Vars Ra Fx row rounds) := by
  have h1 := X.hN
  have h2 := X.hc
  have h3 := X.hM
  have hi := (List.getElem?_eq_some_iff.1 hx).1
  obtain ⟨n, rfl⟩ : ∃ q, n = q + 1 := ⟨n - 1, by omega⟩
  show Ok P (r17_Run_l0_b N c fuel v3 v4 v5 r6 r8 r9 kp0 kp1 (r17_Run_l0 N c fuel v3 v4 v5 r6 r8 r9 kp0 kp1 n) (co : Int) (i : Int) Vars Ra Fx row rounds)
  unfold r17_Run_l0_b
  rw [show decide ((i : Int) ≥ 0) = true by simp, show decide ((i : Int) < ((c.length : Nat) : Int)) = true by simpa using hi, ifB_tt, Option.bind_some, if_pos rfl]
  by_cases hfu : (co : Int) ≥ (if (1048576 < fuel) then 1048576 else fuel)
  · rw [if_pos (by simpa using hfu)]
    refine X.fail _ _ _ _ _ w (by decide) tr (by omega) (by omega) (.inr ⟨?_, hw⟩)
    split at hfu <;> omega
  · rw [if_neg (by simpa using hfu), at_nat, hx, Option.bind_some]
    exact k n (by omega)
theorem c15_ok {e v3 v4 v5 r26 r27 r28 r29 r30 : Int} {o31 : List Int} {o32 : List Msg} {o33 : List Effc} {o34 o35 : List Int} {a b : Option R} (h0 : e ≠ 0 → Ok P a) (h1 : e = 0 → Ok P b) :
    Ok P (r17_Run_c15 N c fuel e v3 v4 v5 r26 r27 r28 r29 r30 o31 o32 o33 o34 o35 a b) := by
  unfold r17_Run_c15
  by_cases he : e = 0
  · rw [if_neg (by simpa using he)]; exact h1 he
  · rw [if_pos (by simpa using he)]; exact h0 he
theorem expr_run (X : Cx P N c fuel kp1 TT FF Mt) {bd : Bool} {p q : Nat} (hq : q ≤ c.length) (hX : XC c bd p q) {B : Nat} (hB : B ≤ Mt) {rounds : List Int} {w : MR} (hw : ∃ t ∈ TT, w <+: t) (hF : bd = true → w ∈ FF)
    (hG : GoAt P N (runc N c fuel v3 v4 v5 r6 r8 r9 kp0 kp1) q B rounds w) : ∀ (m k : Nat), k ≤ m → ∀ i, i + k = q → p ≤ i → ∀ (n co : Nat) (Vars : List Int) (Ra : List Msg) (Fx : List Effc) (row : List Int), n + co = N → co + k ≤ B → row.length ≤ co → Ra.length ≤ co → Fx.length ≤ co → TrR Ra Fx w →
      Ok P (runc N c fuel v3 v4 v5 r6 r8 r9 kp0 kp1 n (co : Int) (i : Int) Vars Ra Fx row rounds) := by
  have h1 := X.hN
  have h2 := X.hc
  have h3 := X.hM
  intro m
  induction m with
  | zero =>
    intro k hk i hi _ n co Vars Ra Fx row a1 a2 a3 a4 a5 tr
    obtain rfl : k = 0 := by omega
    obtain rfl : i = q := by omega
    exact hG n co Vars Ra Fx row a1 (by omega) a3 a4 a5 tr
  | succ m ih =>
    intro k hk i hi hpi n co Vars Ra Fx row a1 a2 a3 a4 a5 tr
    by_cases k0 : k = 0
    · subst k0
      obtain rfl : i = q := by omega
      exact hG n co Vars Ra Fx row a1 (by omega) a3 a4 a5 tr
    obtain ⟨x, hx, _⟩ := drop_cons (l := c) (i := i) (by omega)
    obtain ⟨hop, hj⟩ := hX i x hpi (by omega) hx
    refine step_ok X hx hw a1 (by omega) a4 a5 tr fun n' hn' => ?_
    have w1 : IntKind.wrap .i64 ((co : Int) + 1) = ((co + 1 : Nat) : Int) := by rw [wr _ (by omega) (by omega)]; omega
    have w2 : IntKind.wrap .i64 ((i : Int) + 1) = ((i + 1 : Nat) : Int) := by rw [wr _ (by omega) (by omega)]; omega
    have go : ∀ (j : Nat) (row' : List Int), i < j → j ≤ q → row'.length ≤ co + 1 → Ok P (runc N c fuel v3 v4 v5 r6 r8 r9 kp0 kp1 n' ((co + 1 : Nat) : Int) (j : Int) Vars Ra Fx row' rounds) := fun j row' j1 j2 j3 =>
      ih (q - j) (by omega) j (by omega) (by omega) n' (co + 1) Vars Ra Fx row' hn' (by omega) j3 (by omega) (by omega) tr
    unfold disp
    rw [w1, w2]
    rcases hop with ⟨o1, o2, o3⟩ | hop
    · rw [if_pos (by simp; omega)]
      have both : ∀ cd row', row'.length ≤ row.length + 1 → (x.Op ≠ 5 → ¬ (7 ≤ x.Op ∧ x.Op ≤ 11) → cd = 0) → Ok P (r17_Run_c15 N c fuel cd v3 v4 v5 r6 ((co + 1 : Nat) : Int) r8 r9 ((i + 1 : Nat) : Int) Vars Ra Fx row' rounds (kp1 ((co + 1 : Nat) : Int) cd Vars Ra Fx) (runc N c fuel v3 v4 v5 r6 r8 r9 kp0 kp1 n' ((co + 1 : Nat) : Int) ((i + 1 : Nat) : Int) Vars Ra Fx row' rounds)) := by
        intro cd row' hr hc
        refine c15_ok (fun h0 => ?_) fun _ => go (i + 1) row' (by omega) (by omega) (by omega)
        have hb : bd = true := by
          cases hbd : bd with
          | true => rfl
          | false => exact absurd (hc (o3 hbd).1 (o3 hbd).2) h0
        exact X.fail _ _ _ _ _ w h0 tr (by omega) (by omega) (.inl (hF hb))
      exact reckon_ok (by omega) (by omega) o1 o2 _ _ (fun cd row' h1 h2 => both cd row' h1 h2) (fun cd row' h1 h2 => both cd row' h1 h2)
    · obtain ⟨j1, j2⟩ := hj hop
      obtain ⟨j, hjA⟩ : ∃ j : Nat, x.A = (j : Int) := ⟨x.A.toNat, by omega⟩
      rw [if_neg (by simp; omega), if_neg (by simp; omega)]
      unfold r17_running_move_3
      rcases hop with o | o
      · rw [if_pos (by simpa using o)]
        refine c15_ok (fun h => absurd rfl h) fun _ => ?_
        rw [hjA]
        exact go j row (by omega) (by omega) (by omega)
      · rw [if_neg (by simp [o]), if_pos (by simp [o])]
        obtain ⟨z, row', e1, e2⟩ := rtake (R := R) (N := N) (row := row) (rounds := rounds) (Vars := Vars) (Ra := Ra) (Fx := Fx) (v := r6) (co := ((co + 1 : Nat) : Int)) (cd := r8) (ag := r9) (at_ := ((i + 1 : Nat) : Int)) (by omega)
        rw [e2]
        by_cases hz : z = 0
        · rw [if_pos (by simpa using hz)]
          refine c15_ok (fun h => absurd rfl h) fun _ => ?_
          rw [hjA]
          exact go j row' (by omega) (by omega) (by omega)
        · rw [if_neg (by simpa using hz)]
          refine c15_ok (fun h => absurd rfl h) fun _ => ?_
          exact go (i + 1) row' (by omega) (by omega) (by omega)
/-- What an act adds to the row. -/
def wA (pt : List (List UInt8)) (a : Act) (w : MR) : MR := if a.Kind = 2 then w ++ [⟨-1, a.Event⟩] else if a.Kind = 3 then w ++ [⟨idxS pt a.Name 0, a.Event⟩] else w
theorem act_run (X : Cx P N c fuel kp1 TT FF Mt) {fl : List Expr → Bool} {pt : List (List UInt8)} {a : Act} (h1 : 1 ≤ a.Kind) (h5 : a.Kind ≤ 5) {p n : Nat} (hq : p + n + 1 ≤ c.length) (hX : XC c (fl a.X) p (p + n)) {x : Ins} (hx : c[p + n]? = some x) (ho : x.Op = 17 + a.Kind) (e2 : a.Kind = 2 → x.S = a.Event) (e3 : a.Kind = 3 → x.S = a.Event ∧ x.A = idxS pt a.Name 0)
    (hi : a.Kind = 3 → 0 ≤ idxS pt a.Name 0) {B : Nat} (hB : B + (n + 1) ≤ Mt) {rounds : List Int} {w : MR} (hw : ∃ t ∈ TT, w <+: t) (hF : (a.Kind == 4 || fl a.X) = true → w ∈ FF)
    (hG : GoAt P N (runc N c fuel v3 v4 v5 r6 r8 r9 kp0 kp1) (p + n + 1) (B + (n + 1)) rounds (wA pt a w)) : GoAt P N (runc N c fuel v3 v4 v5 r6 r8 r9 kp0 kp1) p B rounds w := by
  have g1 := X.hN
  have g2 := X.hc
  have g3 := X.hM
  have hm : maxRow = 68719476736 := rfl
  intro m0 co0 Vars0 Ra0 Fx0 row0 b1 b2 b3 b4 b5 tr0
  refine expr_run X (p := p) (q := p + n) (B := B + n) (by omega) hX (by omega) hw (fun h => hF (by rw [h, Bool.or_true])) ?_ n n (Nat.le_refl _) p rfl (Nat.le_refl _) m0 co0 Vars0 Ra0 Fx0 row0 b1 (by omega) b3 b4 b5 tr0
  clear b1 b2 b3 b4 b5 tr0
  intro m co Vars Ra Fx row a1 a2 a3 a4 a5 tr
  refine step_ok X hx hw a1 (by omega) a4 a5 tr fun n' hn' => ?_
  have w1 : IntKind.wrap .i64 ((co : Int) + 1) = ((co + 1 : Nat) : Int) := by rw [wr _ (by omega) (by omega)]; omega
  have w2 : IntKind.wrap .i64 (((p + n : Nat) : Int) + 1) = ((p + n + 1 : Nat) : Int) := by rw [wr _ (by omega) (by omega)]; omega
  unfold disp
  rw [w1, w2, if_neg (by simp; omega), if_pos (by simp; omega)]
  unfold r17_running_act_4
  have go : ∀ (Vars : List Int) (Ra' : List Msg) (Fx' : List Effc) (row' : List Int), row'.length ≤ co + 1 → Ra'.length ≤ co + 1 → Fx'.length ≤ co + 1 → TrR Ra' Fx' (wA pt a w) → Ok P (runc N c fuel v3 v4 v5 r6 r8 r9 kp0 kp1 n' ((co + 1 : Nat) : Int) ((p + n + 1 : Nat) : Int) Vars Ra' Fx' row' rounds) := fun Vars Ra' Fx' row' q1 q2 q3 q4 =>
    hG n' (co + 1) Vars Ra' Fx' row' hn' (by omega) q1 q2 q3 q4
  have same : a.Kind ≠ 2 → a.Kind ≠ 3 → TrR Ra Fx (wA pt a w) := fun q2 q3 => by unfold wA; rw [if_neg q2, if_neg q3]; exact tr
  have add : ∀ y : Effc, y.Kind ≠ 1 → a.Kind ≠ 2 → a.Kind ≠ 3 → TrR Ra (Fx ++ [y]) (wA pt a w) := fun y hy q2 q3 => by
    have := same q2 q3
    refine ⟨this.1, this.2.trans ?_⟩
    rw [List.filter_append, show [y].filter (fun x => x.Kind == 1) = [] by simp [hy], List.append_nil]
  have l1 : ∀ y : Msg, (Ra ++ [y]).length ≤ co + 1 := fun y => by simp; omega
  have l2 : ∀ y : Effc, (Fx ++ [y]).length ≤ co + 1 := fun y => by simp; omega
  by_cases k5 : a.Kind = 5
  · rw [if_neg (by simp; omega)]
    unfold r17_running_act_4_c4
    rw [if_neg (by simp; omega), if_neg (by simp; omega), if_neg (by simp; omega), if_neg (by simp; omega), if_pos (by simp; omega), if_pos (by simp; omega)]
    exact c15_ok (fun h => absurd rfl h) fun _ => go _ _ _ _ (by omega) (by omega) (l2 _) (add _ (by simp) (by omega) (by omega))
  rw [if_pos (by simp; omega)]
  obtain ⟨z, row', f1, f2⟩ := rtake (R := R) (N := N) (row := row) (rounds := rounds) (Vars := Vars) (Ra := Ra) (Fx := Fx) (v := r6) (co := ((co + 1 : Nat) : Int)) (cd := r8) (ag := r9) (at_ := ((p + n + 1 : Nat) : Int)) (by omega)
  rw [f2]
  unfold r17_running_act_4_c4
  by_cases k1 : a.Kind = 1
  · rw [if_pos (by simp; omega)]
    by_cases hA : 0 ≤ x.A ∧ x.A < (Vars.length : Int)
    · have hv : Vars[x.A.toNat]? = some (Vars[x.A.toNat]'(by omega)) := List.getElem?_eq_getElem (by omega)
      rw [show decide (x.A ≥ 0) = true by simpa using hA.1, show decide (x.A < ((Vars.length : Nat) : Int)) = true by simpa using hA.2, ifB_tt, Option.bind_some, if_pos rfl, if_pos hA, hv]
      exact c15_ok (fun h => absurd rfl h) fun _ => go _ _ _ _ (by omega) (by omega) (by omega) (same (by omega) (by omega))
    · have : ifB (decide (x.A ≥ 0)) true (some (decide (x.A < ((Vars.length : Nat) : Int)))) (some false) = some false := by
        by_cases hA0 : 0 ≤ x.A
        · rw [show decide (x.A ≥ 0) = true by simpa using hA0, ifB_tt, show decide (x.A < ((Vars.length : Nat) : Int)) = false by simp; omega]
        · rw [show decide (x.A ≥ 0) = false by simpa using hA0, ifB_ft]
      rw [this, Option.bind_some, if_neg (by simp)]
      exact c15_ok (fun h => absurd rfl h) fun _ => go _ _ _ _ (by omega) (by omega) (by omega) (same (by omega) (by omega))
  rw [if_neg (by simp; omega)]
  by_cases k2 : a.Kind = 2
  · rw [if_pos (by simp; omega), if_pos (by simp; omega)]
    refine c15_ok (fun h => absurd rfl h) fun _ => go _ _ _ _ (by omega) (l1 _) (by omega) ?_
    unfold wA
    rw [if_pos k2, e2 k2]
    refine ⟨?_, ?_⟩
    · rw [List.filter_append, tr.1, List.map_append]; rfl
    · rw [List.filter_append, tr.2, show [(⟨-1, a.Event⟩ : Mark)].filter (fun m => !isR m) = [] by simp [isR], List.append_nil]
  rw [if_neg (by simp; omega)]
  by_cases k3 : a.Kind = 3
  · rw [if_pos (by simp; omega), if_pos (by simp; omega)]
    refine c15_ok (fun h => absurd rfl h) fun _ => go _ _ _ _ (by omega) (by omega) (l2 _) ?_
    obtain ⟨s1, s2⟩ := e3 k3
    have hi0 := hi k3
    unfold wA
    rw [if_neg k2, if_pos k3, s1, s2]
    refine ⟨?_, ?_⟩
    · rw [List.filter_append, tr.1, show [(⟨idxS pt a.Name 0, a.Event⟩ : Mark)].filter isR = [] by simp [isR]; omega, List.append_nil]
    · rw [List.filter_append, tr.2, List.filter_append, List.map_append, show [(⟨idxS pt a.Name 0, a.Event⟩ : Mark)].filter (fun m => !isR m) = [⟨idxS pt a.Name 0, a.Event⟩] by simp [isR]; omega]
      rfl
  rw [if_neg (by simp; omega), if_pos (by simp; omega)]
  have k4 : a.Kind = 4 := by omega
  have h4 : ∃ b, ifB (decide (z < 1)) false (some (decide (z > 65536))) (some true) = some b := ifB_some _ _ _ _
  obtain ⟨b, hb⟩ := h4
  rw [hb, Option.bind_some]
  cases b with
  | true =>
    rw [if_pos rfl]
    refine c15_ok (fun h0 => X.fail _ _ _ _ _ w h0 tr (by omega) (by omega) (.inl (hF (by simp [k4])))) fun h => absurd h (by decide)
  | false =>
    rw [if_neg (by simp), if_pos (by simp; omega)]
    exact c15_ok (fun h => absurd rfl h) fun _ => go _ _ _ _ (by omega) (by omega) (l2 _) (add _ (by simp) (by omega) (by omega))
/-- A loop begins. -/
theorem loop_run (X : Cx P N c fuel kp1 TT FF Mt) {p : Nat} {x : Ins} (hx : c[p]? = some x) (ho : x.Op = 25) {B : Nat} (hB : B + 1 ≤ Mt) {rounds : List Int} (hr : rounds.length ≤ 1000) {w : MR} (hw : ∃ t ∈ TT, w <+: t)
    (hG : GoAt P N (runc N c fuel v3 v4 v5 r6 r8 r9 kp0 kp1) (p + 1) (B + 1) (rounds ++ [x.N]) w) : GoAt P N (runc N c fuel v3 v4 v5 r6 r8 r9 kp0 kp1) p B rounds w := by
  have g1 := X.hN
  have g2 := X.hc
  have g3 := X.hM
  have hm : maxRow = 68719476736 := rfl
  have hi := (List.getElem?_eq_some_iff.1 hx).1
  intro m co Vars Ra Fx row a1 a2 a3 a4 a5 tr
  refine step_ok X hx hw a1 (by omega) a4 a5 tr fun n' hn' => ?_
  have w1 : IntKind.wrap .i64 ((co : Int) + 1) = ((co + 1 : Nat) : Int) := by rw [wr _ (by omega) (by omega)]; omega
  have w2 : IntKind.wrap .i64 ((p : Int) + 1) = ((p + 1 : Nat) : Int) := by rw [wr _ (by omega) (by omega)]; omega
  unfold disp
  rw [w1, w2, if_neg (by simp; omega), if_neg (by simp; omega)]
  unfold r17_running_move_3
  rw [if_neg (by simp [ho]), if_neg (by simp [ho]), if_pos (by simp [ho]), if_pos (by simp; omega), if_pos (by simp; omega), List.nil_append]
  exact c15_ok (fun h => absurd rfl h) fun _ => hG n' (co + 1) _ _ _ _ hn' (by omega) (by omega) (by omega) (by omega) tr
/-- A loop's round ends. -/
theorem next_run (X : Cx P N c fuel kp1 TT FF Mt) {m0 p : Nat} {y : Ins} (hy : c[m0]? = some y) (ho : y.Op = 26) (hA : y.A = (p : Int)) (hp : p ≤ 900000) {B : Nat} (hB : B + 1 ≤ Mt) {rounds : List Int} (hr : rounds.length ≤ 1000) {w : MR} (hw : ∃ t ∈ TT, w <+: t) {j : Nat} (hj : 1 ≤ j) (hj2 : j ≤ 1000)
    (hG : if j = 1 then GoAt P N (runc N c fuel v3 v4 v5 r6 r8 r9 kp0 kp1) (m0 + 1) (B + 1) rounds w else GoAt P N (runc N c fuel v3 v4 v5 r6 r8 r9 kp0 kp1) (p + 1) (B + 1) (rounds ++ [((j - 1 : Nat) : Int)]) w) :
    GoAt P N (runc N c fuel v3 v4 v5 r6 r8 r9 kp0 kp1) m0 B (rounds ++ [(j : Int)]) w := by
  have g1 := X.hN
  have g2 := X.hc
  have g3 := X.hM
  have hi := (List.getElem?_eq_some_iff.1 hy).1
  intro m co Vars Ra Fx row a1 a2 a3 a4 a5 tr
  refine step_ok X hy hw a1 (by omega) a4 a5 tr fun n' hn' => ?_
  have w1 : IntKind.wrap .i64 ((co : Int) + 1) = ((co + 1 : Nat) : Int) := by rw [wr _ (by omega) (by omega)]; omega
  have w2 : IntKind.wrap .i64 ((m0 : Int) + 1) = ((m0 + 1 : Nat) : Int) := by rw [wr _ (by omega) (by omega)]; omega
  have len : (rounds ++ [(j : Int)]).length = rounds.length + 1 := by simp
  have w3 : IntKind.wrap .i64 ((((rounds ++ [(j : Int)]).length : Nat) : Int) - 1) = ((rounds.length : Nat) : Int) := by rw [len, wr _ (by omega) (by omega)]; omega
  have w4 : IntKind.wrap .i64 ((j : Int) - 1) = ((j - 1 : Nat) : Int) := by rw [wr _ (by omega) (by omega)]; omega
  have w5 : IntKind.wrap .i64 ((p : Int) + 1) = ((p + 1 : Nat) : Int) := by rw [wr _ (by omega) (by omega)]; omega
  have gl : (rounds ++ [(j : Int)])[rounds.length]? = some (j : Int) := by simp
  have st : (rounds ++ [(j : Int)]).set rounds.length ((j - 1 : Nat) : Int) = rounds ++ [((j - 1 : Nat) : Int)] := by simp
  have gl2 : (rounds ++ [((j - 1 : Nat) : Int)])[rounds.length]? = some ((j - 1 : Nat) : Int) := by simp
  have len2 : (rounds ++ [((j - 1 : Nat) : Int)]).length = rounds.length + 1 := by simp
  unfold disp
  rw [w1, w2, if_neg (by simp; omega), if_neg (by simp; omega)]
  unfold r17_running_move_3
  rw [if_neg (by simp [ho]), if_neg (by simp [ho]), if_neg (by simp [ho]), if_pos (by simp [ho]), if_neg (by simp; omega), w3, Int.toNat_natCast, gl]
  simp only [w4, st, gl2, gl, len, len2]
  have cc : (0 : Int) ≤ ((rounds.length : Nat) : Int) ∧ ((rounds.length : Nat) : Int) < ((rounds.length + 1 : Nat) : Int) := ⟨by omega, by omega⟩
  simp only [if_pos cc]
  by_cases h1 : j = 1
  · rw [if_pos h1] at hG
    rw [if_neg (by simp; omega), if_pos ⟨by omega, by omega, by omega⟩]
    have e : (rounds ++ [((j - 1 : Nat) : Int)]).take (rounds.length - Int.toNat 0) = rounds := by simp
    simp only [e]
    exact c15_ok (fun h => absurd rfl h) fun _ => hG n' (co + 1) _ _ _ _ hn' (by omega) (by omega) (by omega) (by omega) tr
  · rw [if_neg h1] at hG
    rw [if_pos (by simp; omega), hA, w5]
    exact c15_ok (fun h => absurd rfl h) fun _ => hG n' (co + 1) _ _ _ _ hn' (by omega) (by omega) (by omega) (by omega) tr
end
/-- Failures stay, rows go on. -/
def Mono (f : St2 → Option St2) : Prop := ∀ s s', f s = some s' → (∀ x ∈ s.2, x ∈ s'.2) ∧ ∀ t ∈ s.1, ∃ t' ∈ s'.1, t <+: t'
theorem Mono.id : Mono some := fun s s' h => by cases h; exact ⟨fun _ h => h, fun t ht => ⟨t, ht, List.prefix_refl _⟩⟩
theorem Mono.bind {f g : St2 → Option St2} (hf : Mono f) (hg : Mono g) : Mono fun s => (f s).bind g := fun s s' h => by
  obtain ⟨s1, h1, h2⟩ := Option.bind_eq_some_iff.1 h
  obtain ⟨a1, a2⟩ := hf s s1 h1
  obtain ⟨b1, b2⟩ := hg s1 s' h2
  exact ⟨fun x hx => b1 x (a1 x hx), fun t ht => by
    obtain ⟨t1, q1, q2⟩ := a2 t ht
    obtain ⟨t2, q3, q4⟩ := b2 t1 q1
    exact ⟨t2, q3, q2.trans q4⟩⟩
theorem Mono.loop {f : St2 → Option St2} (hf : Mono f) : ∀ n, Mono (loopS f n)
  | 0 => Mono.id
  | n + 1 => Mono.bind hf (Mono.loop hf n)
theorem pre_ok {b : Bool} {s s' : St2} (h : (if b = true then failS s else some s) = some s') : s'.1 = s.1 ∧ (∀ x ∈ s.2, x ∈ s'.2) ∧ (b = true → ∀ x ∈ s.1, x ∈ s'.2) := by
  cases b with
  | false =>
    rw [if_neg (by simp)] at h
    cases h
    exact ⟨rfl, fun _ h => h, fun h => by cases h⟩
  | true =>
    rw [if_pos rfl] at h
    unfold failS at h
    split at h
    · cases h
      exact ⟨rfl, fun x hx => mem_un.2 (.inl hx), fun _ x hx => mem_un.2 (.inr hx)⟩
    · cases h
theorem markS_ok {m : Mark} {s s' : St2} (h : markS m s = some s') : s'.1 = s.1.map (· ++ [m]) ∧ s'.2 = s.2 := by
  unfold markS at h
  split at h
  · cases h; exact ⟨rfl, rfl⟩
  · cases h
variable {fl : List Expr → Bool} {pt : List (List UInt8)} {rec : List Act → St2 → Option St2}
theorem actS_15 {a : Act} (h1 : 1 ≤ a.Kind) (h5 : a.Kind ≤ 5) {s s' : St2} (h : actS fl pt rec a s = some s') :
    (∀ w ∈ s.1, wA pt a w ∈ s'.1) ∧ (∀ x ∈ s.2, x ∈ s'.2) ∧ ((a.Kind == 4 || fl a.X) = true → ∀ x ∈ s.1, x ∈ s'.2) ∧ ∀ t ∈ s'.1, ∃ w ∈ s.1, t = wA pt a w := by
  unfold actS at h
  obtain ⟨s1, e1, e2⟩ := Option.bind_eq_some_iff.1 h
  obtain ⟨p1, p2, p3⟩ := pre_ok e1
  by_cases k2 : a.Kind = 2
  · rw [if_pos (by simpa using k2)] at e2
    obtain ⟨q1, q2⟩ := markS_ok e2
    rw [q1, q2, p1]
    have : ∀ w, wA pt a w = w ++ [⟨-1, a.Event⟩] := fun w => by unfold wA; rw [if_pos k2]
    simp only [this]
    exact ⟨fun w hw => List.mem_map.2 ⟨w, hw, rfl⟩, p2, p3, fun t ht => by obtain ⟨w, hw, e⟩ := List.mem_map.1 ht; exact ⟨w, hw, e.symm⟩⟩
  rw [if_neg (by simpa using k2)] at e2
  by_cases k3 : a.Kind = 3
  · rw [if_pos (by simpa using k3)] at e2
    obtain ⟨q1, q2⟩ := markS_ok e2
    rw [q1, q2, p1]
    have : ∀ w, wA pt a w = w ++ [⟨idxS pt a.Name 0, a.Event⟩] := fun w => by unfold wA; rw [if_neg k2, if_pos k3]
    simp only [this]
    exact ⟨fun w hw => List.mem_map.2 ⟨w, hw, rfl⟩, p2, p3, fun t ht => by obtain ⟨w, hw, e⟩ := List.mem_map.1 ht; exact ⟨w, hw, e.symm⟩⟩
  rw [if_neg (by simpa using k3), if_neg (by simp; omega), if_neg (by simp; omega)] at e2
  cases e2
  have : ∀ w, wA pt a w = w := fun w => by unfold wA; rw [if_neg k2, if_neg k3]
  simp only [this, p1]
  exact ⟨fun w hw => hw, p2, p3, fun t ht => ⟨t, ht, rfl⟩⟩
theorem actS_7 {a : Act} (h7 : a.Kind = 7) {n : Nat} (hn : a.N = (n : Int)) (h4 : n ≤ 4) {s : St2} : actS fl pt rec a s = (if (a.Kind == 4 || fl a.X) = true then failS s else some s).bind (loopS (rec a.Then) n) := by
  unfold actS
  have e : (if 16 < a.N then 16 else a.N).toNat = n := by rw [if_neg (by omega), hn]; rfl
  rw [e]
  congr 1
  funext s1
  rw [if_neg (by simp [h7]), if_neg (by simp [h7]), if_neg (by simp [h7]), if_pos (by simp [h7])]
theorem wA_pre (a : Act) (w : MR) : w <+: wA pt a w := by
  unfold wA
  split
  · exact List.prefix_append _ _
  · split
    · exact List.prefix_append _ _
    · exact List.prefix_refl _
theorem Mono.pre {b : Bool} : Mono fun s => if b = true then failS s else some s := fun s s' h => by
  obtain ⟨p1, p2, _⟩ := pre_ok h
  exact ⟨p2, fun t ht => ⟨t, by rw [p1]; exact ht, List.prefix_refl _⟩⟩
theorem AC.mono {c : List Ins} {rc : List Act → Sk → Nat → Prop} (hr : ∀ l s p, rc l s p → Mono (rec l)) {a : Act} {s : Sk} {p : Nat} (h : AC fl pt c rc a s p) : Mono (actS fl pt rec a) := by
  rcases h with ⟨h1, h5, _⟩ | ⟨h7, n, b, _, hn, _, h4, _, hb, _⟩
  · intro s s' h
    obtain ⟨q1, q2, _⟩ := actS_15 h1 h5 h
    exact ⟨q2, fun t ht => ⟨_, q1 t ht, wA_pre a t⟩⟩
  · have : actS fl pt rec a = fun s => (if (a.Kind == 4 || fl a.X) = true then failS s else some s).bind (loopS (rec a.Then) n) := funext fun s => actS_7 h7 hn h4
    rw [this]
    exact Mono.bind Mono.pre (Mono.loop (hr _ _ _ hb) n)
theorem LC.mono {st : Act → St2 → Option St2} {sc : Act → Sk → Nat → Prop} (hs : ∀ a s p, sc a s p → Mono (st a)) : ∀ {l : List Act} {s : Sk} {p : Nat}, LC sc l s p → Mono (actsS st l)
  | [], _, _, _ => Mono.id
  | a :: r, s, p, ⟨s1, s2, _, h1, h2⟩ => Mono.bind (hs _ _ _ h1) (LC.mono hs h2)
theorem BC.mono {c : List Ins} : ∀ {d : Nat} {l : List Act} {s : Sk} {p : Nat}, BC fl pt c d l s p → Mono (sp fl pt d l) := by
  intro d
  induction d with
  | zero => exact fun h => h.elim
  | succ d ih => exact fun h => LC.mono (fun a s p h => AC.mono (fun l s p h => ih h) h) h
section
variable {R : Type} {N : Nat} {P : R → Prop} {c : List Ins} {fuel : Int} {kp1 : Int → Int → List Int → List Msg → List Effc → Option R} {run : Nat → RunT R} {TT FF : List MR} {Mt : Nat}
/-- A part of the code does what its rows tell. -/
def Rn (P : R → Prop) (N : Nat) (run : Nat → RunT R) (c : List Ins) (TT FF : List MR) (Mt : Nat) (f : St2 → Option St2) (s : Sk) (p D : Nat) : Prop :=
  ∀ B rounds w S S', f S = some S' → w ∈ S.1 → (∀ x ∈ S'.2, x ∈ FF) → (∀ t ∈ S'.1, ∃ u ∈ TT, t <+: u) → B + s.most ≤ Mt → p + s.len ≤ c.length → rounds.length + D ≤ 1000 →
    (∀ w' ∈ S'.1, GoAt P N run (p + s.len) (B + s.most) rounds w') → GoAt P N run p B rounds w
theorem Rn.bind {f g : St2 → Option St2} {s1 s2 : Sk} {p D : Nat} (hf : Rn P N run c TT FF Mt f s1 p D) (hg : Rn P N run c TT FF Mt g s2 (p + s1.len) D) (hm : Mono g) : Rn P N run c TT FF Mt (fun s => (f s).bind g) (s1.app s2) p D := by
  intro B rounds w S S' h hw hF hT hB hl hr hk
  obtain ⟨S1, h1, h2⟩ := Option.bind_eq_some_iff.1 h
  obtain ⟨m1, m2⟩ := hm S1 S' h2
  rw [Sk.most_app] at hB hk
  rw [Sk.len_app] at hl hk
  refine hf B rounds w S S1 h1 hw (fun x hx => hF x (m1 x hx)) (fun t ht => ?_) (by omega) (by omega) hr fun w1 hw1 => ?_
  · obtain ⟨t', q1, q2⟩ := m2 t ht
    obtain ⟨u, q3, q4⟩ := hT t' q1
    exact ⟨u, q3, q2.trans q4⟩
  · refine hg _ rounds w1 S1 S' h2 hw1 hF hT (by omega) (by omega) hr fun w' hw' => ?_
    have := hk w' hw'
    rwa [← Nat.add_assoc, ← Nat.add_assoc] at this
theorem Rn.nil {p D : Nat} : Rn P N run c TT FF Mt some .nil p D := by
  intro B rounds w S S' h hw hF hT hB hl hr hk
  cases h
  exact hk w hw
variable {v3 v4 v5 r6 r8 r9 : Int} {kp0 : Int → Int → List Int → List Msg → List Effc → List Int → List Int → Option R}
theorem Rn.loop (X : Cx P N c fuel kp1 TT FF Mt) {f : St2 → Option St2} {b : Sk} {p D : Nat} (hf : Rn P N (runc N c fuel v3 v4 v5 r6 r8 r9 kp0 kp1) c TT FF Mt f b (p + 1) D) (hm : Mono f) {y : Ins} (hy : c[p + 1 + b.len]? = some y) (ho : y.Op = 26) (hA : y.A = (p : Int)) (hl : p + (b.len + 2) ≤ c.length) :
    ∀ (j : Nat), 1 ≤ j → j ≤ 1000 → ∀ B rounds w S S', loopS f j S = some S' → w ∈ S.1 → (∀ x ∈ S'.2, x ∈ FF) → (∀ t ∈ S'.1, ∃ u ∈ TT, t <+: u) → B + j * (b.most + 1) ≤ Mt → rounds.length + (D + 1) ≤ 1000 →
    (∀ w' ∈ S'.1, GoAt P N (runc N c fuel v3 v4 v5 r6 r8 r9 kp0 kp1) (p + 1 + b.len + 1) (B + j * (b.most + 1)) rounds w') → GoAt P N (runc N c fuel v3 v4 v5 r6 r8 r9 kp0 kp1) (p + 1) B (rounds ++ [(j : Int)]) w := by
  intro j
  have g2 := X.hc
  induction j with
  | zero => intro h; omega
  | succ j ih =>
    intro _ hj2 B rounds w S S' h hw hF hT hB hr hk
    obtain ⟨S1, h1, h2⟩ := Option.bind_eq_some_iff.1 (show (f S).bind (loopS f j) = some S' from h)
    obtain ⟨m1, m2⟩ := Mono.loop hm j S1 S' h2
    have e : (j + 1) * (b.most + 1) = j * (b.most + 1) + (b.most + 1) := Nat.succ_mul _ _
    rw [e] at hB hk
    have hT1 : ∀ t ∈ S1.1, ∃ u ∈ TT, t <+: u := fun t ht => by
      obtain ⟨t', q1, q2⟩ := m2 t ht
      obtain ⟨u, q3, q4⟩ := hT t' q1
      exact ⟨u, q3, q2.trans q4⟩
    refine hf B (rounds ++ [((j + 1 : Nat) : Int)]) w S S1 h1 hw (fun x hx => hF x (m1 x hx)) hT1 (by omega) (by omega) (by simp; omega) fun w1 hw1 => ?_
    refine next_run X hy ho hA (by omega) (by omega) (by omega) (hT1 w1 hw1) (by omega) hj2 ?_
    by_cases hj : j = 0
    · subst hj
      rw [if_pos rfl]
      cases h2
      exact (hk w1 hw1).le (by omega)
    · rw [if_neg (by omega), show j + 1 - 1 = j by omega]
      exact ih (by omega) (by omega) (B + b.most + 1) rounds w1 S1 S' h2 hw1 hF hT (by omega) hr fun w' hw' => (hk w' hw').le (by omega)
theorem AC.goes (X : Cx P N c fuel kp1 TT FF Mt) {rc : List Act → Sk → Nat → Prop} {Q : List Act → Prop} {D : Nat} (hr : ∀ l s p, rc l s p → Q l → Rn P N (runc N c fuel v3 v4 v5 r6 r8 r9 kp0 kp1) c TT FF Mt (rec l) s p D) (hm : ∀ l s p, rc l s p → Mono (rec l)) (hpt : ∀ x ∈ PWs, 0 ≤ idxS pt x 0) {a : Act} (ha : aok Q a) {s : Sk} {p : Nat} (h : AC fl pt c rc a s p) :
    Rn P N (runc N c fuel v3 v4 v5 r6 r8 r9 kp0 kp1) c TT FF Mt (actS fl pt rec a) s p (D + 1) := by
  intro B rounds w S S' hS hw hF hT hB hl hrd hk
  rcases h with ⟨h1, h5, n, rfl, hX, x, hx, ho, e2, e3⟩ | ⟨h7, n, b, rfl, hn, n1, n4, ⟨x, hx, hxo, hxN⟩, hb, y, hy, hyo, hyA⟩
  · rw [Sk.most_ones] at hB hk
    rw [Sk.len_ones] at hl hk
    obtain ⟨q1, q2, q3, _⟩ := actS_15 h1 h5 hS
    have hTw : ∃ t ∈ TT, w <+: t := by
      obtain ⟨u, q4, q5⟩ := hT _ (q1 w hw)
      exact ⟨u, q4, (wA_pre a w).trans q5⟩
    refine act_run X h1 h5 (by omega) hX hx ho e2 e3 (fun k3 => ?_) hB hTw (fun hbad => hF _ (q3 hbad w hw)) (hk _ (q1 w hw))
    rcases ha.2.2 with ⟨_, _, _, _, _, hname⟩ | ⟨h7, _⟩
    · exact hpt _ (hname k3)
    · omega
  · simp only [Sk.most] at hB hk
    simp only [Sk.len] at hl hk
    rw [actS_7 h7 hn n4] at hS
    obtain ⟨S1, s1, s2⟩ := Option.bind_eq_some_iff.1 hS
    obtain ⟨p1, p2, _⟩ := pre_ok s1
    have hmb := hm _ _ _ hb
    obtain ⟨m1, m2⟩ := Mono.loop hmb n S1 S' s2
    have hw1 : w ∈ S1.1 := by rw [p1]; exact hw
    have hTw : ∃ t ∈ TT, w <+: t := by
      obtain ⟨t', q1, q2⟩ := m2 w hw1
      obtain ⟨u, q3, q4⟩ := hT t' q1
      exact ⟨u, q3, q2.trans q4⟩
    have hQ : Q a.Then := by
      rcases ha.2.2 with ⟨_, h5, _⟩ | ⟨_, _, _, _, q⟩
      · omega
      · exact q
    refine loop_run X hx hxo (by omega) (by omega) hTw ?_
    rw [hxN]
    exact Rn.loop X (hr _ _ _ hb hQ) hmb hy hyo hyA (by omega) n n1 (by omega) (B + 1) rounds w S1 S' s2 hw1 hF hT (by omega) (by omega) fun w' hw' => by
      have := hk w' hw'
      rw [show p + (b.len + 2 + 0) = p + 1 + b.len + 1 by omega] at this
      exact this.le (by omega)
theorem LC.goes {st : Act → St2 → Option St2} {sc : Act → Sk → Nat → Prop} {D : Nat} (hm : ∀ a s p, sc a s p → Mono (st a)) : ∀ {l : List Act} {s : Sk} {p : Nat}, (∀ a ∈ l, ∀ s p, sc a s p → Rn P N run c TT FF Mt (st a) s p D) → LC sc l s p → Rn P N run c TT FF Mt (actsS st l) s p D
  | [], s, p, _, h => by cases h; exact Rn.nil
  | a :: r, s, p, hs, ⟨s1, s2, e, h1, h2⟩ => by
    subst e
    exact Rn.bind (hs a (by simp) _ _ h1) (LC.goes hm (fun b hb => hs b (by simp [hb])) h2) (LC.mono hm h2)
theorem BC.goes (X : Cx P N c fuel kp1 TT FF Mt) (hpt : ∀ x ∈ PWs, 0 ≤ idxS pt x 0) : ∀ {d : Nat} {l : List Act} {s : Sk} {p : Nat}, BC fl pt c d l s p → BP d l → Rn P N (runc N c fuel v3 v4 v5 r6 r8 r9 kp0 kp1) c TT FF Mt (sp fl pt d l) s p d := by
  intro d
  induction d with
  | zero => exact fun h => h.elim
  | succ d ih =>
    intro l s p h hb
    have hb2 := (BOK_iff.1 (show BOK d l from hb)).2
    exact LC.goes (fun a s p h => AC.mono (fun l s p h => BC.mono h) h) (fun a ha s p h => AC.goes X (fun l s p h1 h2 => ih h1 h2) (fun l s p h => BC.mono h) hpt (hb2 a ha) h) h
end
end Ef
