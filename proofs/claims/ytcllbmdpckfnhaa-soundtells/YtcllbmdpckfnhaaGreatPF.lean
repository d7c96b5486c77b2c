/- The reference's check in plain words: names, states, acts. -/
import Derived.Test.YtcllbmdpckfnhaaGreatPE
set_option maxRecDepth 1000000
set_option linter.unusedVariables false
set_option linter.unusedSimpArgs false
namespace So
open Go TE Go.Proofs
section
variable {E R : Type} {l : List E}
theorem foldsI {A : Type} (f : List E → E → A → A) (Inv : List E → A → Prop) (K : A → Option R) (hl : l.length < big) (G : Nat → Int → A → Option R)
  (hG : ∀ n (pre : List E) e rest a, l = pre ++ e :: rest → Inv pre a → decide (((pre.length : Nat) : Int) < ((l.length : Nat) : Int)) = true → at? l pre.length = some e → G (n + 1) pre.length a = G n (IntKind.wrap .i64 (((pre.length : Nat) : Int) + 1)) (f pre e a) ∧ Inv (pre ++ [e]) (f pre e a))
  (h0 : ∀ n a, Inv l a → G (n + 1) l.length a = K a) : ∀ (rest pre : List E) (a : A) (n : Nat), l = pre ++ rest → Inv pre a → rest.length < n → G n pre.length a = K (foldP f pre rest a) := by
 have hb : big = 1000000000 := rfl
 intro rest
 induction rest with
 | nil =>
  intro pre a n h hi hn
  obtain ⟨n, rfl⟩ : ∃ m, n = m + 1 := ⟨n - 1, by omega⟩
  have : l = pre := by simpa using h
  subst this
  rw [h0 _ _ hi]; rfl
 | cons e r ih =>
  intro pre a n h hi hn
  obtain ⟨n, rfl⟩ : ∃ m, n = m + 1 := ⟨n - 1, by omega⟩
  have hlen : l.length = pre.length + (r.length + 1) := by rw [h]; simp
  obtain ⟨h1, h2⟩ := hG n pre e r a h hi (by simp; omega) (at_some (by omega) (by rw [h]; simp))
  rw [h1]
  rw [wr _ (by omega) (by omega), show ((pre.length : Int) + 1) = ((pre ++ [e]).length : Int) by simp, ih (pre ++ [e]) _ n (by rw [h]; simp) h2 (by simp at hn; omega)]
  rfl
theorem walks (g : List E → E → Flt) (hg : ∀ pre e, Nf (g pre e)) (Inv : List E → Prop) (k : Int → Int → Option R) (hl : l.length < big) (G : Nat → Int → Option R)
  (hG : ∀ n (pre : List E) e rest, l = pre ++ e :: rest → Inv pre → decide (((pre.length : Nat) : Int) < ((l.length : Nat) : Int)) = true → at? l pre.length = some e →
   G (n + 1) pre.length = (if (g pre e).1 = 0 then G n (IntKind.wrap .i64 (((pre.length : Nat) : Int) + 1)) else kf k (g pre e)) ∧ ((g pre e).1 = 0 → Inv (pre ++ [e])))
  (K0 : Option R) (h0 : ∀ n, decide (((l.length : Nat) : Int) < ((l.length : Nat) : Int)) = false → Inv l → G (n + 1) l.length = K0) (hi : Inv []) (N : Nat) (hN : l.length < N) :
  G N 0 = (if (gP g [] l).1 = 0 then K0 else kf k (gP g [] l)) ∧ ((gP g [] l).1 = 0 → Inv l) := by
 have := exits (fun pre e (_ : Unit) => (g pre e, ())) (fun pre _ => Inv pre) (fun _ => K0) (fun f _ => kf k f) hl (fun n i _ => G n i) (fun n pre e rest a h hi h1 h2 => hG n pre e rest h hi h1 h2) (fun n a h hi => h0 n h hi) l [] () N rfl hi hN
 rw [exitP_gP hg] at this
 exact this
end
theorem chk_true (c a : Int) : chk true c a = (0, 0) := rfl
theorem chk_false (c a : Int) : chk false c a = (c, a) := rfl
theorem kf_nf {R : Type} {k : Int → Int → Option R} {f : Flt} (h : Nf f) : (if f.1 = 0 then k 0 0 else kf k f) = kf k f := by
 split
 ·rename_i h0; rw [h h0]; rfl
 ·rfl
section
variable {R : Type} {N : Nat}
theorem rnames_eq (l : List Named) (k : List (List UInt8) → Option R) (hN : big ≤ N) (hl : (l.length : Int) ≤ 16386) : r12_names N l k = k (l.map (·.Name)) := by
 have hb : big = 1000000000 := rfl
 unfold r12_names
 have := foldsI (fun _ e (a : List (List UInt8)) => a ++ [e.Name]) (fun pre a => a.length = pre.length) k (l := l) (by omega) (fun n i a => r12_names_l0 N l (fun y => k y) n i a) (fun n pre e rest a h hi h1 h2 => ⟨?_, by simp [hi]⟩) (fun n a hi => ?_) l [] [] N rfl rfl (by omega)
 ·rw [foldP_foldl (fun (a : List (List UInt8)) (e : Named) => a ++ [e.Name])] at this
  refine Eq.trans this ?_
  congr 1
  have : ∀ (l : List Named) (a : List (List UInt8)), l.foldl (fun a e => a ++ [e.Name]) a = a ++ l.map (·.Name) := by
   intro l
   induction l with
   | nil => intro a; simp
   | cons e r ih => intro a; simp only [List.foldl_cons, ih, List.map_cons]; simp
  simpa using this l []
 ·have : pre.length ≤ l.length := by rw [h]; simp
  simp only [r12_names_l0, r12_names_l0_b, h1, h2, if_true, Option.bind_some]
  rw [if_pos (by simp [maxRow]; omega)]
 ·simp only [r12_names_l0, r12_names_l0_b]
  simp
theorem any_map_name (l : List Named) (s : List UInt8) : (l.map (·.Name)).any (fun e => e == s) = l.any fun e => e.Name == s := by
 rw [List.any_map]; rfl
theorem rnamed_eq (l : List Named) (most : Int) (k : Int → Int → Option R) (hN : big ≤ N) (hl : (l.length : Int) ≤ 16386) (hm : 0 ≤ most) : r12_named N l most k = kf k (gP (nameG most) [] l) := by
 have hb : big = 1000000000 := rfl
 unfold r12_named
 have := (walks (nameG most) (Nf_nameG most) (fun pre => (pre.length : Int) ≤ most) k (l := l) (by omega) (fun n i => r12_named_l0 N l most 0 0 (k 0 0) (fun y z => k y z) n i) (fun n pre e rest h hi h1 h2 => ?_) (k 0 0) (fun n h hi => ?_) (by simpa using hm) N (by omega)).1
 ·rw [kf_nf (Nf_gP (Nf_nameG _) _ _)] at this
  exact this
 ·have hp : pre.length ≤ l.length := by rw [h]; simp
  have hpl : (pre.length : Int) ≤ 16386 := by omega
  simp only [r12_named_l0, r12_named_l0_b, h1, h2, if_true, Option.bind_some]
  by_cases hq : (pre.length : Int) = most
  ·have hq' : (((pre.length : Nat) : Int) == most) = true := by simp [hq]
   have hd : decide (((pre.length : Nat) : Int) < most) = false := by simp; omega
   have hg : nameG most pre e = (15, e.At) := by
    unfold nameG
    rw [hd]
    simp [chk, orF]
   rw [if_pos hq', hg]
   simp [kf]
  ·have hq' : ¬ (((pre.length : Nat) : Int) == most) = true := by simpa using hq
   have hd : decide (((pre.length : Nat) : Int) < most) = true := by simp; omega
   have hg : nameG most pre e = chk (!pre.any fun x => x.Name == e.Name) 8 e.At := by
    unfold nameG
    rw [hd]
    exact zero_orF (Nf_chk _ _ (by decide))
   rw [if_neg hq', hg, if_pos (g01 hp), take_pre h, rnames_eq _ _ hN hpl, r12has_eq _ _ _ hN (by simp; omega), any_map_name]
   cases hz : pre.any fun x => x.Name == e.Name with
   | true => simp [chk, kf]
   | false => simp [chk]; omega
 ·simp only [r12_named_l0, r12_named_l0_b, h]
  simp
def prR (c : Chart) (names states : List (List UInt8)) : Pr := ⟨fun s => c.Vars.any fun e => e.Name == s, fun s => c.Ports.any fun e => e.Name == s, fun s => c.Timers.any fun e => e.Name == s, fun s => states.any fun e => e == s, fun s => names.any fun e => e == s⟩
theorem exFs_gP (P : Pr) : ∀ (l pre : List Expr), gP (fun _ e => exF P e) pre l = exFs P l
 | [], _ => by simp [gP, exFs]
 | e :: r, pre => by simp only [gP, exFs]; rw [exFs_gP P r]
theorem acFs_gP (P : Pr) : ∀ (l pre : List Act), gP (fun _ e => acF P e) pre l = acFs P l
 | [], _ => by simp [gP, acFs]
 | e :: r, pre => by simp only [gP, acFs]; rw [acFs_gP P r]
theorem Nf_exF (P : Pr) (e : Expr) : Nf (exF P e) := by cases e; simp only [exF]; exact Nf_orF (Nf_chk _ _ (by decide)) (Nf_exFs P _)
theorem Nf_acF (P : Pr) (e : Act) : Nf (acF P e) := by
 cases e; simp only [acF]
 exact Nf_orF (Nf_chk _ _ (by decide)) (Nf_orF (Nf_chk _ _ (by decide)) (Nf_orF (Nf_exFs P _) (Nf_orF (Nf_acFs P _) (Nf_acFs P _))))
theorem rexpr_eqd (c : Chart) (names states : List (List UInt8)) (tr : Int) (hN : big ≤ N) (hc : ChLen c) (hs : states.length < big) : ∀ (d : Nat),
  (∀ (R : Type) (l : List Expr) (k : Int → Int → Option R), 2 * szEs l < d → szEs l < big → (Fam_r12_looking_exprs_at N d).r12_looking_exprs R l c.Name c.Steps c.Fuel c.Vars c.Ports c.Timers c.States c.At tr names states k = kf k (exFs (prR c names states) l)) ∧
  (∀ (R : Type) (e : Expr) (k : Int → Int → Option R), 2 * szE e - 1 < d → szE e < big → (Fam_r12_looking_exprs_at N d).r12_looking_expr R e.Kind e.N e.Name e.Kids e.At c.Name c.Steps c.Fuel c.Vars c.Ports c.Timers c.States c.At tr names states k = kf k (exF (prR c names states) e)) := by
 have hb : big = 1000000000 := rfl
 intro d
 induction d with
 | zero => exact ⟨fun R l k h => by have := szEs_pos l; omega, fun R e k h => by have := szE_pos e; omega⟩
 | succ d ih =>
  refine ⟨fun R l k hd hl => ?_, fun R e k hd hl => ?_⟩
  ·rw [r12_looking_exprs_at]
   unfold r12_looking_exprs_d
   have hll := szEs_len l
   have := (walks (fun _ e => exF (prR c names states) e) (fun _ e => Nf_exF _ e) (fun _ => True) k (l := l) (by omega) (fun n i => r12_looking_exprs_l0 (Fam_r12_looking_exprs_at N d) N l c.Name c.Steps c.Fuel c.Vars c.Ports c.Timers c.States c.At tr names states 0 0 (k 0 0) (fun y z => k y z) n i) (fun n pre e rest h hi h1 h2 => ⟨?_, fun _ => trivial⟩) (k 0 0) (fun n h hi => ?_) trivial N (by omega)).1
   ·rw [exFs_gP, kf_nf (Nf_exFs _ _)] at this
    exact this
   ·have he : e ∈ l := by rw [h]; simp
    have := szEs_mem he
    simp only [r12_looking_exprs_l0, r12_looking_exprs_l0_b, h1, h2, if_true, Option.bind_some]
    rw [ih.2 _ _ _ (by omega) (by omega), kf_eq]
    by_cases hz : (exF (prR c names states) e).1 = 0
    ·rw [if_neg (by simp [hz]), if_pos hz]
    ·rw [if_pos (by simp [hz]), if_neg hz]; rfl
   ·simp only [r12_looking_exprs_l0, r12_looking_exprs_l0_b, h]
    simp
  ·rw [r12_looking_expr_at]
   unfold r12_looking_expr_d
   obtain ⟨K, n, s, kids, a⟩ := e
   rw [szE_eq] at hd hl
   have hv := hc.1
   simp only [rnames_eq _ _ hN (show (c.Vars.length : Int) ≤ 16386 by omega), r12has_eq _ _ _ hN (show (c.Vars.map (·.Name)).length < big by simp; omega), r12has_eq _ _ _ hN hs, ifB_and, ifB_or, Option.bind_some, any_map_name]
   rw [ih.1 _ _ _ (by omega) (by omega)]
   simp only [exF]
   have hcond : ((K == 2) && !(c.Vars.any fun e => e.Name == s) || (K == 4) && !(states.any fun e => e == s)) = !(if K = 2 then (prR c names states).v s else if K = 4 then (prR c names states).q s else true) := by
    by_cases h2 : K = 2
    ·subst h2; simp [prR]
    ·by_cases h4 : K = 4
     ·subst h4; simp [prR]
     ·have b2 : (K == 2) = false := by simp [h2]
      have b4 : (K == 4) = false := by simp [h4]
      simp [b2, b4, h2, h4]
   rw [hcond]
   cases (if K = 2 then (prR c names states).v s else if K = 4 then (prR c names states).q s else true) with
   | true =>
    simp only [Bool.not_true, Bool.false_eq_true, if_false, chk, if_true]
    rw [zero_orF (Nf_exFs _ _)]
   | false => simp [chk, orF, kf]
theorem rexprs_eq (c : Chart) (names states : List (List UInt8)) (tr : Int) (hN : big ≤ N) (hc : ChLen c) (hs : states.length < big) (l : List Expr) (k : Int → Int → Option R) (hl : szEs l < 100000000) :
  r12_looking_exprs N l c.Name c.Steps c.Fuel c.Vars c.Ports c.Timers c.States c.At tr names states k = kf k (exFs (prR c names states) l) := by
 have hb : big = 1000000000 := rfl
 unfold r12_looking_exprs
 exact (rexpr_eqd c names states tr hN hc hs N).1 R l k (by omega) (by omega)
theorem racts_eqd (c : Chart) (names states : List (List UInt8)) (tr : Int) (hN : big ≤ N) (hc : ChLen c) (hs : states.length < big) : ∀ (d : Nat) (R : Type) (l : List Act) (k : Int → Int → Option R), szAs l < d → szAs l < 100000000 → (Fam_r12_looking_acts_at N d).r12_looking_acts R l c.Name c.Steps c.Fuel c.Vars c.Ports c.Timers c.States c.At tr names states k = kf k (acFs (prR c names states) l) := by
 have hb : big = 1000000000 := rfl
 intro d
 induction d with
 | zero => intro R l k h; have := szAs_pos l; omega
 | succ d ih =>
  intro R l k hd hl
  rw [r12_looking_acts_at]
  unfold r12_looking_acts_d
  have hll := szAs_len l
  have := (walks (fun _ e => acF (prR c names states) e) (fun _ e => Nf_acF _ e) (fun _ => True) k (l := l) (by omega) (fun n i => r12_looking_acts_l0 (Fam_r12_looking_acts_at N d) N l c.Name c.Steps c.Fuel c.Vars c.Ports c.Timers c.States c.At tr names states 0 0 (k 0 0) (fun y z => k y z) n i) (fun n pre e rest h hi h1 h2 => ⟨?_, fun _ => trivial⟩) (k 0 0) (fun n h hi => ?_) trivial N (by omega)).1
  ·rw [acFs_gP, kf_nf (Nf_acFs _ _)] at this
   exact this
  ·have he : e ∈ l := by rw [h]; simp
   have hes := szAs_mem he
   obtain ⟨K, s, ev, X, nn, T, EE, at_⟩ := e
   rw [szA_eq] at hes
   have p1 := szEs_pos X; have p2 := szAs_pos T; have p3 := szAs_pos EE
   obtain ⟨v1, v2, v3⟩ := hc
   simp only [r12_looking_acts_l0, r12_looking_acts_l0_b, h1, h2, if_true, Option.bind_some]
   simp only [rnames_eq _ _ hN (show (c.Vars.length : Int) ≤ 16386 by omega), rnames_eq _ _ hN (show (c.Ports.length : Int) ≤ 16386 by omega), rnames_eq _ _ hN (show (c.Timers.length : Int) ≤ 16386 by omega), r12has_eq _ _ _ hN (show (c.Vars.map (·.Name)).length < big by simp; omega), r12has_eq _ _ _ hN (show (c.Ports.map (·.Name)).length < big by simp; omega), r12has_eq _ _ _ hN (show (c.Timers.map (·.Name)).length < big by simp; omega), ifB_and, ifB_or, Option.bind_some, any_map_name]
   have hcond : ((((K == 1) && !(c.Vars.any fun e => e.Name == s)) || ((K == 3) && !(c.Ports.any fun e => e.Name == s))) || (((K == 4) || (K == 5)) && !(c.Timers.any fun e => e.Name == s))) = !there (prR c names states) K s := by
    unfold there
    by_cases e1 : K = 1
    ·subst e1; simp [prR]
    by_cases e3 : K = 3
    ·subst e3; simp [prR]
    have b1 : (K == 1) = false := by simp [e1]
    have b3 : (K == 3) = false := by simp [e3]
    by_cases e4 : K = 4
    ·subst e4; simp [prR]
    by_cases e5 : K = 5
    ·subst e5; simp [prR]
    have b4 : (K == 4) = false := by simp [e4]
    have b5 : (K == 5) = false := by simp [e5]
    simp [b1, b3, b4, b5, e1, e3, e4, e5]
   rw [hcond]
   unfold r12_looking_acts_c6
   simp only [acF]
   rcases Bool.eq_false_or_eq_true (there (prR c names states) K s) with hth | hth
   rotate_left
   ·simp [hth, chk, orF, kf]
   ·simp only [hth, Bool.not_true, Bool.false_eq_true, if_false, chk_true]
    rw [zero_orF (Nf_orF (Nf_chk _ _ (by decide)) (Nf_orF (Nf_exFs _ _) (Nf_orF (Nf_acFs _ _) (Nf_acFs _ _))))]
    simp only [ifB_and, ifB_or, Option.bind_some]
    have hr : ((K == 7) && (decide (nn < 1) || decide (nn > 16))) = !((K != 7) || (decide (nn ≥ 1) && decide (nn ≤ 16))) := by
     by_cases h7 : K = 7
     ·subst h7
      by_cases g1 : nn < 1
      ·have : ¬ nn ≥ 1 := by omega
       simp [g1, this]
      ·have g1' : nn ≥ 1 := by omega
       by_cases g2 : nn > 16
       ·have : ¬ nn ≤ 16 := by omega
        simp [g1, g2, g1', this]
       ·have : nn ≤ 16 := by omega
        simp [g1, g2, g1', this]
     ·have b7 : (K == 7) = false := by simp [h7]
      have b7' : (K != 7) = true := by simp [h7]
      simp [b7, b7']
    rw [hr]
    rcases Bool.eq_false_or_eq_true ((K != 7) || (decide (nn ≥ 1) && decide (nn ≤ 16))) with hrg | hrg
    rotate_left
    ·simp only [hrg, Bool.not_false, if_true, chk_false]
     simp [orF, kf]
    ·simp only [hrg, Bool.not_true, Bool.false_eq_true, if_false, chk_true]
     rw [zero_orF (Nf_orF (Nf_exFs _ _) (Nf_orF (Nf_acFs _ _) (Nf_acFs _ _)))]
     rw [rexprs_eq c names states tr hN ⟨v1, v2, v3⟩ hs _ _ (by omega), kf_eq]
     have c15 : ∀ (f : Flt) (k0 k1 : Option R) x1 x2 x3 x4 x5 x6 x7 x8 x9 x10 x11 x12 x13 x14 x15, r12_looking_acts_c15 (Fam_r12_looking_acts_at N d) N x1 x2 x3 x4 x5 x6 x7 x8 x9 x10 x11 x12 x13 x14 x15 f.1 f.2 k0 k1 = if f.1 = 0 then k1 else k0 := by
      intro f k0 k1 x1 x2 x3 x4 x5 x6 x7 x8 x9 x10 x11 x12 x13 x14 x15
      unfold r12_looking_acts_c15
      by_cases hz : f.1 = 0
      ·rw [if_neg (by simp [hz]), if_pos hz]
      ·rw [if_pos (by simp [hz]), if_neg hz]
     have c13 : ∀ (f : Flt) (k1 : Option R) x1 x2 a1 a2 a3 a4 a5 a6 a7, r12_looking_acts_c13 (Fam_r12_looking_acts_at N d) N x1 x2 c.Name c.Steps c.Fuel c.Vars c.Ports c.Timers c.States c.At tr names states 0 0 a1 a2 a3 a4 a5 a6 EE a7 f.1 f.2 (fun y z => k y z) k1 = if (thenF f (acFs (prR c names states) EE)).1 = 0 then k1 else kf k (thenF f (acFs (prR c names states) EE)) := by
      intro f k1 x1 x2 a1 a2 a3 a4 a5 a6 a7
      unfold r12_looking_acts_c13 thenF
      by_cases hz : f.1 = 0
      ·rw [if_pos (by simp [hz]), if_pos hz, ih _ _ _ (by omega) (by omega), kf_eq, c15]; rfl
      ·rw [if_neg (by simp [hz]), if_neg hz, if_neg hz, c15, if_neg hz]; rfl
     rw [orF_then (Nf_exFs _ _) (Nf_orF (Nf_acFs _ _) (Nf_acFs _ _)), orF_then (Nf_acFs _ _) (Nf_acFs _ _)]
     by_cases hz : (exFs (prR c names states) X).1 = 0
     ·rw [if_pos (by simp [hz]), ih _ _ _ (by omega) (by omega), kf_eq, c13]
      simp only [thenF, hz, if_true]
      rfl
     ·rw [if_neg (by simp [hz]), c13]
      simp only [thenF, hz, if_false]
      try rfl
  ·simp only [r12_looking_acts_l0, r12_looking_acts_l0_b, h]
   simp
theorem racts_eq (c : Chart) (names states : List (List UInt8)) (tr : Int) (hN : big ≤ N) (hc : ChLen c) (hs : states.length < big) (l : List Act) (k : Int → Int → Option R) (hl : szAs l < 100000000) :
  r12_looking_acts N l c.Name c.Steps c.Fuel c.Vars c.Ports c.Timers c.States c.At tr names states k = kf k (acFs (prR c names states) l) := by
 have hb : big = 1000000000 := rfl
 unfold r12_looking_acts
 exact racts_eqd c names states tr hN hc hs N R l k (by omega) hl
theorem rone_eq (c : Chart) (names states : List (List UInt8)) (tr : Int) (hN : big ≤ N) (hc : ChLen c) (hs : states.length < big) (hn : names.length < big) (t : Trans) (k : Int → Int → Int → Option R) (ht : szT t < 100000000) (h0 : 0 ≤ tr) (h1 : tr ≤ 96) :
  ∃ tr', r12_looking_one N t.Event t.Guard t.Target t.Acts t.At c.Name c.Steps c.Fuel c.Vars c.Ports c.Timers c.States c.At tr names states k = k (trF (prR c names states) (tr + 1) t).1 (trF (prR c names states) (tr + 1) t).2 tr' ∧ ((trF (prR c names states) (tr + 1) t).1 = 0 → tr' = tr + 1 ∧ tr + 1 ≤ 96) := by
 have hb : big = 1000000000 := rfl
 have p1 := szEs_pos t.Guard; have p2 := szAs_pos t.Acts
 unfold szT at ht
 unfold r12_looking_one trF
 by_cases h96 : tr = 96
 ·subst h96
  refine ⟨96, ?_, fun h => ?_⟩
  ·simp [chk, orF]
  ·simp [chk, orF] at h
 ·have hq : ¬ (tr == 96) = true := by simpa using h96
  have hd : decide (tr + 1 ≤ 96) = true := by simp; omega
  rw [if_neg hq, hd]
  simp only [r12has_eq _ _ _ hN hn, ifB_and, Option.bind_some, wr (tr + 1) (by omega) (by omega)]
  refine ⟨tr + 1, ?_, fun _ => ⟨rfl, by omega⟩⟩
  have hz1 : ∀ f : Flt, Nf f → orF (chk true 15 t.At) f = f := fun f hf => zero_orF hf
  rw [hz1 _ (Nf_orF (Nf_chk _ _ (by decide)) (Nf_orF (Nf_exFs _ _) (Nf_acFs _ _)))]
  have hcnd : (!(t.Target == []) && !(names.any fun e => e == t.Target)) = !((t.Target == []) || (prR c names states).g t.Target) := by
   simp [prR]
  rw [hcnd]
  rcases Bool.eq_false_or_eq_true ((t.Target == []) || (prR c names states).g t.Target) with hg | hg
  rotate_left
  ·simp only [hg, Bool.not_false, if_true]
   simp [chk, orF]
  ·simp only [hg, Bool.not_true, Bool.false_eq_true, if_false, chk_true]
   rw [zero_orF (Nf_orF (Nf_exFs _ _) (Nf_acFs _ _)), orF_then (Nf_exFs _ _) (Nf_acFs _ _), rexprs_eq c names states _ hN hc hs _ _ (by omega), kf_eq]
   by_cases hz : (exFs (prR c names states) t.Guard).1 = 0
   ·rw [if_pos (by simp [hz]), racts_eq c names states _ hN hc hs _ _ (by omega), kf_eq]
    simp only [thenF, hz, if_true]
   ·rw [if_neg (by simp [hz])]
    simp only [thenF, hz, if_false]
end
def stN (l : List State) : List (List UInt8) := (l.filter fun s => !isH s).map (·.Name)
theorem okS_kind {s : State} (h : okS s) : (1 ≤ s.Kind ∧ s.Kind ≤ 4) ∧ (3 ≤ s.Kind → s.Entry = [] ∧ s.Exit = [] ∧ s.Trans = [] ∧ s.Kids = []) ∧ okSs s.Kids := by
 cases s; simpa [okS] using h
theorem isS_eq {s : State} (h : okS s) : isS s = !isH s := by
 obtain ⟨⟨h1, h2⟩, _⟩ := okS_kind h
 unfold isS isH
 have : s.Kind = 1 ∨ s.Kind = 2 ∨ s.Kind = 3 ∨ s.Kind = 4 := by omega
 rcases this with h | h | h | h <;> simp [h]
theorem okSs_mem : ∀ {l : List State}, okSs l → ∀ s ∈ l, okS s
 | x :: r, h, s, hs => by
  simp only [okSs] at h
  rcases List.mem_cons.1 hs with rfl | hs
  ·exact h.1
  ·exact okSs_mem h.2 s hs
theorem anyS_eq {l : List State} (h : okSs l) : l.any isS = l.any fun s => !isH s := by
 induction l with
 | nil => rfl
 | cons s r ih =>
  simp only [okSs] at h
  simp only [List.any_cons, isS_eq h.1, ih h.2]
theorem okSs_fl : ∀ l : List State, okSs l → ∀ s ∈ flL l, okS s := by
 intro l
 refine State.rec_1 (motive_1 := fun s => okS s → ∀ x ∈ flS s, okS x) (motive_2 := fun l => okSs l → ∀ s ∈ flL l, okS s) ?_ ?_ ?_ l
 ·intro k n en ex tr kids a ih h x hx
  rw [flS_cons] at hx
  rcases List.mem_cons.1 hx with rfl | hx
  ·exact h
  ·exact ih (okS_kind h).2.2 x hx
 ·intro _ s hs; simp [flL] at hs
 ·intro s r h1 h2 h x hx
  simp only [okSs] at h
  simp only [flL, List.mem_append] at hx
  rcases hx with hx | hx
  ·exact h1 h.1 x hx
  ·exact h2 h.2 x hx
theorem stN_app (a b : List State) : stN (a ++ b) = stN a ++ stN b := by simp [stN]
theorem bad_eq {top : Bool} {s : State} (h : okS s) : ((top && !isS s) || (s.Kind == 2 && !s.Kids.any isS) || (s.Kind == 1 && decide (((s.Kids.length : Nat) : Int) > 0) && !s.Kids.any isS)) = badS top s := by
 obtain ⟨⟨h1, h2⟩, h3, h4⟩ := okS_kind h
 unfold badS
 rw [isS_eq h, anyS_eq h4, Bool.not_not]
 have : s.Kind = 1 ∨ s.Kind = 2 ∨ 3 ≤ s.Kind := by omega
 rcases this with e | e | e
 ·simp [e]
 ·have b1 : (s.Kind == 1) = false := by simp [e]
  have b2 : (s.Kind == 2) = true := by simp [e]
  rw [b1, b2]
  generalize (s.Kids.any fun e => !isH e) = q
  generalize decide (((s.Kids.length : Nat) : Int) > 0) = w
  generalize (top && isH s) = z
  cases q <;> cases w <;> cases z <;> rfl
 ·have hk := (h3 e).2.2.2
  have e1 : ¬ s.Kind = 1 := by omega
  have e2 : ¬ s.Kind = 2 := by omega
  simp [e1, e2, hk]
theorem chkS_63 {top : Bool} {out : List State} {s : State} (h : out.length = 63) : chkS top out s = (15, s.At) := by
 unfold chkS
 have : decide (((out.length : Nat) : Int) < 63) = false := by simp; omega
 rw [this, chk_false]; simp [orF]
theorem chkS_8 {top : Bool} {out : List State} {s : State} (h : out.length < 63) (h1 : (out.any fun e => e.Name == s.Name) = true) : chkS top out s = (8, s.At) := by
 unfold chkS
 have : decide (((out.length : Nat) : Int) < 63) = true := by simp; omega
 rw [this, h1, chk_true, Bool.not_true, chk_false]; simp [orF]
theorem chkS_17 {top : Bool} {out : List State} {s : State} (h : out.length < 63) (h1 : (out.any fun e => e.Name == s.Name) = false) (h2 : badS top s = true) : chkS top out s = (17, s.At) := by
 unfold chkS
 have : decide (((out.length : Nat) : Int) < 63) = true := by simp; omega
 rw [this, h1, h2, chk_true, Bool.not_true, chk_false, Bool.not_false, chk_true]; simp [orF]
theorem chkS_0 {top : Bool} {out : List State} {s : State} (h : out.length < 63) (h1 : (out.any fun e => e.Name == s.Name) = false) (h2 : badS top s = false) : chkS top out s = (0, 0) := by
 unfold chkS
 have : decide (((out.length : Nat) : Int) < 63) = true := by simp; omega
 rw [this, h1, h2, chk_true, Bool.not_false, chk_true, chk_true]; simp [orF]
theorem any_mapS (l : List State) (s : List UInt8) : (l.map (·.Name)).any (fun e => e == s) = l.any fun e => e.Name == s := by
 rw [List.any_map]; rfl
theorem szSs_mem : ∀ (l : List State) (e : State), e ∈ l → szS e ≤ szSs l
 | x :: r, e, h => by
  have := szSs_pos r; have := szS_pos x
  simp only [szSs]
  rcases List.mem_cons.1 h with rfl | h
  ·omega
  ·have := szSs_mem r e h; omega
section
variable {R : Type} {N : Nat}
theorem r12_looking_shapes_2_loop (c : Chart) (tr : Int) (hN : big ≤ N) (F : Fam_r12_looking_shapes_2) (o1 o2 : List (List UInt8)) (top : Bool) (l : List State) (k : Int → Int → List (List UInt8) → List (List UInt8) → Option R) (hl : szSs l < 20000) (hok : okSs l)
  (hF : ∀ (e : State), e ∈ l → ∀ (out : List State) (k : Int → Int → List (List UInt8) → List (List UInt8) → Option R), out.length ≤ 63 → ∃ n' s', F.r12_looking_shapes_2 R e.Kids false c.Name c.Steps c.Fuel c.Vars c.Ports c.Timers c.States c.At tr (out.map (·.Name)) (stN out) k = k (trL false out e.Kids).1 (trL false out e.Kids).2 n' s' ∧ ((trL false out e.Kids).1 = 0 → n' = (out ++ flL e.Kids).map (·.Name) ∧ s' = stN (out ++ flL e.Kids) ∧ (out ++ flL e.Kids).length ≤ 63)) : ∀ (rest pre : List State) (n : Nat) (out : List State), l = pre ++ rest → rest.length < n → out.length ≤ 63 →
  ∃ n' s', r12_looking_shapes_2_l0 F N l top c.Name c.Steps c.Fuel c.Vars c.Ports c.Timers c.States c.At tr o1 o2 0 0 (fun y z => k 0 0 y z) (fun y z v w => k v w y z) n pre.length (out.map (·.Name)) (stN out) = k (trL top out rest).1 (trL top out rest).2 n' s' ∧ ((trL top out rest).1 = 0 → n' = (out ++ flL rest).map (·.Name) ∧ s' = stN (out ++ flL rest) ∧ (out ++ flL rest).length ≤ 63) := by
 have hb : big = 1000000000 := rfl
 intro rest
 induction rest with
 | nil =>
  intro pre n out h hn ho
  obtain ⟨n, rfl⟩ : ∃ m, n = m + 1 := ⟨n - 1, by omega⟩
  have : l = pre := by simpa using h
  subst this
  refine ⟨out.map (·.Name), stN out, ?_, fun _ => by simpa [flL] using ho⟩
  simp only [r12_looking_shapes_2_l0, r12_looking_shapes_2_l0_b, trL]
  simp
 | cons e r ih =>
  intro pre n out h hn ho
  obtain ⟨n, rfl⟩ : ∃ m, n = m + 1 := ⟨n - 1, by omega⟩
  have hlen : l.length = pre.length + (r.length + 1) := by rw [h]; simp
  have hll := szSs_len l
  have he : e ∈ l := by rw [h]; simp
  have hes := szSs_mem l e he
  have hk := szS_kids e; have hkl := szSs_len e.Kids
  have hoe := okSs_mem hok e he
  have hok4 := (okS_kind hoe).2.2
  have hat : at? l pre.length = some e := at_some (by omega) (by rw [h]; simp)
  have hd : decide (((pre.length : Nat) : Int) < ((l.length : Nat) : Int)) = true := by simp; omega
  have hr : IntKind.wrap .i64 (((pre.length : Nat) : Int) + 1) = (((pre ++ [e]).length : Nat) : Int) := by rw [wr _ (by omega) (by omega)]; simp
  have htr : trL top out (e :: r) = orF (chkS top out e) (orF (trL false (out ++ [e]) e.Kids) (trL top (out ++ flS e) r)) := by
   simp only [trL, tr1_eq, orF_assoc]
  rw [htr]
  simp only [r12_looking_shapes_2_l0, r12_looking_shapes_2_l0_b, hd, hat, if_true, Option.bind_some]
  have hml : (out.map (·.Name)).length = out.length := by simp
  have hsl : (stN out).length ≤ out.length := by unfold stN; rw [List.length_map]; exact List.length_filter_le _ _
  by_cases h63 : out.length = 63
  ·have : ((((out.map (·.Name)).length : Nat) : Int) == 63) = true := by rw [hml, h63]; rfl
   rw [if_pos this, chkS_63 h63, orF_ne _ (by simp)]
   exact ⟨_, _, rfl, fun h => absurd h (by simp)⟩
  have h63' : ¬ ((((out.map (·.Name)).length : Nat) : Int) == 63) = true := by rw [hml]; simp; omega
  have hlt : out.length < 63 := by omega
  rw [if_neg h63', r12has_eq _ _ _ hN (by omega), any_mapS]
  rcases Bool.eq_false_or_eq_true (out.any fun x => x.Name == e.Name) with h8 | h8
  ·rw [if_pos h8, chkS_8 hlt h8, orF_ne _ (by simp)]
   exact ⟨_, _, rfl, fun h => absurd h (by simp)⟩
  rw [if_neg (by simp [h8])]
  simp only [isState_eq, r12some_eq _ _ hN (show e.Kids.length < big by omega), ifB_and, ifB_or, Option.bind_some, bad_eq hoe]
  rcases Bool.eq_false_or_eq_true (badS top e) with h17 | h17
  ·rw [if_pos h17, chkS_17 hlt h8 h17, orF_ne _ (by simp)]
   exact ⟨_, _, rfl, fun h => absurd h (by simp)⟩
  rw [if_neg (by simp [h17]), chkS_0 hlt h8 h17, zero_orF (Nf_orF (Nf_trL _ _ _) (Nf_trL _ _ _))]
  unfold r12_looking_shapes_2_c11
  rw [if_pos (by simp [maxRow]; omega), isState_eq, isS_eq hoe]
  have fin : ∀ (x1 : List (List UInt8)) (x2 : List (List UInt8)), x2 = stN (out ++ [e]) → x1 = (out ++ [e]).map (·.Name) → ∃ n' s', r12_looking_shapes_2_c14 F N l top pre.length c.Name c.Steps c.Fuel c.Vars c.Ports c.Timers c.States c.At tr o1 o2 x1 x2 0 0 e.Kind e.Name e.Entry e.Exit e.Trans e.Kids e.At (fun y z v w => k v w y z) (fun y z => r12_looking_shapes_2_l0 F N l top c.Name c.Steps c.Fuel c.Vars c.Ports c.Timers c.States c.At tr o1 o2 0 0 (fun y z => k 0 0 y z) (fun y z v w => k v w y z) n (IntKind.wrap .i64 (((pre.length : Nat) : Int) + 1)) y z) = k (orF (trL false (out ++ [e]) e.Kids) (trL top (out ++ flS e) r)).1 (orF (trL false (out ++ [e]) e.Kids) (trL top (out ++ flS e) r)).2 n' s' ∧ ((orF (trL false (out ++ [e]) e.Kids) (trL top (out ++ flS e) r)).1 = 0 → n' = (out ++ flL (e :: r)).map (·.Name) ∧ s' = stN (out ++ flL (e :: r)) ∧ (out ++ flL (e :: r)).length ≤ 63) := by
   intro x1 x2 hx2 hx1
   subst hx1; subst hx2
   unfold r12_looking_shapes_2_c14
   obtain ⟨n1, s1, g1, g2⟩ := hF e he (out ++ [e]) (fun (r81 : Int) (r82 : Int) (r83 : List (List UInt8)) (r84 : List (List UInt8)) => if (r81 != 0) = true then k r81 r82 r83 r84 else r12_looking_shapes_2_l0 F N l top c.Name c.Steps c.Fuel c.Vars c.Ports c.Timers c.States c.At tr o1 o2 0 0 (fun y z => k 0 0 y z) (fun y z v w => k v w y z) n (IntKind.wrap .i64 (((pre.length : Nat) : Int) + 1)) r83 r84) (by simp; omega)
   rw [g1]
   by_cases hz : (trL false (out ++ [e]) e.Kids).1 = 0
   ·obtain ⟨rfl, rfl, g5⟩ := g2 hz
    rw [if_neg (by simp [hz]), hr]
    have hoo : out ++ [e] ++ flL e.Kids = out ++ flS e := by simp [flS_cons]
    rw [hoo] at g5 ⊢
    obtain ⟨n2, s2, g3, g4⟩ := ih (pre ++ [e]) n (out ++ flS e) (by rw [h]; simp) (by simp at hn; omega) g5
    rw [(Nf_trL e.Kids false (out ++ [e])) hz, zero_orF (Nf_trL _ _ _)]
    refine ⟨n2, s2, g3, fun hz2 => ?_⟩
    have := g4 hz2
    simpa [flL] using this
   ·rw [if_pos (by simp [hz]), orF_ne _ hz]
    exact ⟨_, _, rfl, fun h => absurd h hz⟩
  rcases Bool.eq_false_or_eq_true (isH e) with hh | hh
  ·rw [if_neg (by simp [hh])]
   exact fin _ _ (by rw [stN_app]; simp [stN, hh]) (by simp)
  ·rw [if_pos (by simp [hh]), if_pos (by simp [maxRow]; omega)]
   exact fin _ _ (by rw [stN_app]; simp [stN, hh]) (by simp)
theorem rshape2_eqd (c : Chart) (tr : Int) (hN : big ≤ N) : ∀ (d : Nat) (R : Type) (top : Bool) (l : List State) (out : List State) (k : Int → Int → List (List UInt8) → List (List UInt8) → Option R), szSs l < d → szSs l < 20000 → okSs l → out.length ≤ 63 →
  ∃ n' s', (Fam_r12_looking_shapes_2_at N d).r12_looking_shapes_2 R l top c.Name c.Steps c.Fuel c.Vars c.Ports c.Timers c.States c.At tr (out.map (·.Name)) (stN out) k = k (trL top out l).1 (trL top out l).2 n' s' ∧ ((trL top out l).1 = 0 → n' = (out ++ flL l).map (·.Name) ∧ s' = stN (out ++ flL l) ∧ (out ++ flL l).length ≤ 63) := by
 have hb : big = 1000000000 := rfl
 intro d
 induction d with
 | zero => intro R top l out k h; have := szSs_pos l; omega
 | succ d ih =>
  intro R top l out k hd hs hok ho
  rw [r12_looking_shapes_2_at]
  unfold r12_looking_shapes_2_d
  have hll := szSs_len l
  refine r12_looking_shapes_2_loop c tr hN _ _ _ top l _ hs hok (fun e he out k ho => ?_) l [] N out rfl (by omega) ho
  have := szSs_mem l e he
  have := szS_kids e
  exact ih R false e.Kids out k (by omega) (by omega) (okS_kind (okSs_mem hok e he)).2.2 ho
theorem rshape2_eq (c : Chart) (tr : Int) (hN : big ≤ N) (top : Bool) (l : List State) (out : List State) (k : Int → Int → List (List UInt8) → List (List UInt8) → Option R) (h1 : szSs l < 20000) (h2 : okSs l) (h3 : out.length ≤ 63) :
  ∃ n' s', r12_looking_shapes_2 N l top c.Name c.Steps c.Fuel c.Vars c.Ports c.Timers c.States c.At tr (out.map (·.Name)) (stN out) k = k (trL top out l).1 (trL top out l).2 n' s' ∧ ((trL top out l).1 = 0 → n' = (out ++ flL l).map (·.Name) ∧ s' = stN (out ++ flL l) ∧ (out ++ flL l).length ≤ 63) := by
 have hb : big = 1000000000 := rfl
 unfold r12_looking_shapes_2
 exact rshape2_eqd c tr hN N R top l out k (by omega) h1 h2 h3
theorem r12_looking_shapes_loop (c : Chart) (tr : Int) (hN : big ≤ N) (top : Bool) (l : List State) (k : Int → Int → List (List UInt8) → List (List UInt8) → Option R) (hl : szSs l < 20000) (hok : okSs l)
  : ∀ (rest pre : List State) (n : Nat) (out : List State), l = pre ++ rest → rest.length < n → out.length ≤ 63 →
  ∃ n' s', r12_looking_shapes_l0 N l top c.Name c.Steps c.Fuel c.Vars c.Ports c.Timers c.States c.At tr 0 0 (fun y z => k 0 0 y z) (fun y z v w => k v w y z) n pre.length (out.map (·.Name)) (stN out) = k (trL top out rest).1 (trL top out rest).2 n' s' ∧ ((trL top out rest).1 = 0 → n' = (out ++ flL rest).map (·.Name) ∧ s' = stN (out ++ flL rest) ∧ (out ++ flL rest).length ≤ 63) := by
 have hb : big = 1000000000 := rfl
 intro rest
 induction rest with
 | nil =>
  intro pre n out h hn ho
  obtain ⟨n, rfl⟩ : ∃ m, n = m + 1 := ⟨n - 1, by omega⟩
  have : l = pre := by simpa using h
  subst this
  refine ⟨out.map (·.Name), stN out, ?_, fun _ => by simpa [flL] using ho⟩
  simp only [r12_looking_shapes_l0, r12_looking_shapes_l0_b, trL]
  simp
 | cons e r ih =>
  intro pre n out h hn ho
  obtain ⟨n, rfl⟩ : ∃ m, n = m + 1 := ⟨n - 1, by omega⟩
  have hlen : l.length = pre.length + (r.length + 1) := by rw [h]; simp
  have hll := szSs_len l
  have he : e ∈ l := by rw [h]; simp
  have hes := szSs_mem l e he
  have hk := szS_kids e; have hkl := szSs_len e.Kids
  have hoe := okSs_mem hok e he
  have hok4 := (okS_kind hoe).2.2
  have hat : at? l pre.length = some e := at_some (by omega) (by rw [h]; simp)
  have hd : decide (((pre.length : Nat) : Int) < ((l.length : Nat) : Int)) = true := by simp; omega
  have hr : IntKind.wrap .i64 (((pre.length : Nat) : Int) + 1) = (((pre ++ [e]).length : Nat) : Int) := by rw [wr _ (by omega) (by omega)]; simp
  have htr : trL top out (e :: r) = orF (chkS top out e) (orF (trL false (out ++ [e]) e.Kids) (trL top (out ++ flS e) r)) := by
   simp only [trL, tr1_eq, orF_assoc]
  rw [htr]
  simp only [r12_looking_shapes_l0, r12_looking_shapes_l0_b, hd, hat, if_true, Option.bind_some]
  have hml : (out.map (·.Name)).length = out.length := by simp
  have hsl : (stN out).length ≤ out.length := by unfold stN; rw [List.length_map]; exact List.length_filter_le _ _
  by_cases h63 : out.length = 63
  ·have : ((((out.map (·.Name)).length : Nat) : Int) == 63) = true := by rw [hml, h63]; rfl
   rw [if_pos this, chkS_63 h63, orF_ne _ (by simp)]
   exact ⟨_, _, rfl, fun h => absurd h (by simp)⟩
  have h63' : ¬ ((((out.map (·.Name)).length : Nat) : Int) == 63) = true := by rw [hml]; simp; omega
  have hlt : out.length < 63 := by omega
  rw [if_neg h63', r12has_eq _ _ _ hN (by omega), any_mapS]
  rcases Bool.eq_false_or_eq_true (out.any fun x => x.Name == e.Name) with h8 | h8
  ·rw [if_pos h8, chkS_8 hlt h8, orF_ne _ (by simp)]
   exact ⟨_, _, rfl, fun h => absurd h (by simp)⟩
  rw [if_neg (by simp [h8])]
  simp only [isState_eq, r12some_eq _ _ hN (show e.Kids.length < big by omega), ifB_and, ifB_or, Option.bind_some, bad_eq hoe]
  rcases Bool.eq_false_or_eq_true (badS top e) with h17 | h17
  ·rw [if_pos h17, chkS_17 hlt h8 h17, orF_ne _ (by simp)]
   exact ⟨_, _, rfl, fun h => absurd h (by simp)⟩
  rw [if_neg (by simp [h17]), chkS_0 hlt h8 h17, zero_orF (Nf_orF (Nf_trL _ _ _) (Nf_trL _ _ _))]
  unfold r12_looking_shapes_c11
  rw [if_pos (by simp [maxRow]; omega), isState_eq, isS_eq hoe]
  have fin : ∀ (x1 : List (List UInt8)) (x2 : List (List UInt8)), x2 = stN (out ++ [e]) → x1 = (out ++ [e]).map (·.Name) → ∃ n' s', r12_looking_shapes_c14 N l top pre.length c.Name c.Steps c.Fuel c.Vars c.Ports c.Timers c.States c.At tr x1 x2 0 0 e.Kind e.Name e.Entry e.Exit e.Trans e.Kids e.At (fun y z v w => k v w y z) (fun y z => r12_looking_shapes_l0 N l top c.Name c.Steps c.Fuel c.Vars c.Ports c.Timers c.States c.At tr 0 0 (fun y z => k 0 0 y z) (fun y z v w => k v w y z) n (IntKind.wrap .i64 (((pre.length : Nat) : Int) + 1)) y z) = k (orF (trL false (out ++ [e]) e.Kids) (trL top (out ++ flS e) r)).1 (orF (trL false (out ++ [e]) e.Kids) (trL top (out ++ flS e) r)).2 n' s' ∧ ((orF (trL false (out ++ [e]) e.Kids) (trL top (out ++ flS e) r)).1 = 0 → n' = (out ++ flL (e :: r)).map (·.Name) ∧ s' = stN (out ++ flL (e :: r)) ∧ (out ++ flL (e :: r)).length ≤ 63) := by
   intro x1 x2 hx2 hx1
   subst hx1; subst hx2
   unfold r12_looking_shapes_c14
   obtain ⟨n1, s1, g1, g2⟩ := rshape2_eq c tr hN false e.Kids (out ++ [e]) (fun (r81 : Int) (r82 : Int) (r83 : List (List UInt8)) (r84 : List (List UInt8)) => if (r81 != 0) = true then k r81 r82 r83 r84 else r12_looking_shapes_l0 N l top c.Name c.Steps c.Fuel c.Vars c.Ports c.Timers c.States c.At tr 0 0 (fun y z => k 0 0 y z) (fun y z v w => k v w y z) n (IntKind.wrap .i64 (((pre.length : Nat) : Int) + 1)) r83 r84) (by omega) hok4 (by simp; omega)
   rw [g1]
   by_cases hz : (trL false (out ++ [e]) e.Kids).1 = 0
   ·obtain ⟨rfl, rfl, g5⟩ := g2 hz
    rw [if_neg (by simp [hz]), hr]
    have hoo : out ++ [e] ++ flL e.Kids = out ++ flS e := by simp [flS_cons]
    rw [hoo] at g5 ⊢
    obtain ⟨n2, s2, g3, g4⟩ := ih (pre ++ [e]) n (out ++ flS e) (by rw [h]; simp) (by simp at hn; omega) g5
    rw [(Nf_trL e.Kids false (out ++ [e])) hz, zero_orF (Nf_trL _ _ _)]
    refine ⟨n2, s2, g3, fun hz2 => ?_⟩
    have := g4 hz2
    simpa [flL] using this
   ·rw [if_pos (by simp [hz]), orF_ne _ hz]
    exact ⟨_, _, rfl, fun h => absurd h hz⟩
  rcases Bool.eq_false_or_eq_true (isH e) with hh | hh
  ·rw [if_neg (by simp [hh])]
   exact fin _ _ (by rw [stN_app]; simp [stN, hh]) (by simp)
  ·rw [if_pos (by simp [hh]), if_pos (by simp [maxRow]; omega)]
   exact fin _ _ (by rw [stN_app]; simp [stN, hh]) (by simp)
theorem rshape_eq (c : Chart) (tr : Int) (hN : big ≤ N) (top : Bool) (l : List State) (k : Int → Int → List (List UInt8) → List (List UInt8) → Option R) (h1 : szSs l < 20000) (h2 : okSs l) :
  ∃ n' s', r12_looking_shapes N l top c.Name c.Steps c.Fuel c.Vars c.Ports c.Timers c.States c.At tr k = k (trL top [] l).1 (trL top [] l).2 n' s' ∧ ((trL top [] l).1 = 0 → n' = (flL l).map (·.Name) ∧ s' = stN (flL l) ∧ (flL l).length ≤ 63) := by
 have hb : big = 1000000000 := rfl
 have hll := szSs_len l
 unfold r12_looking_shapes
 obtain ⟨n', s', g1, g2⟩ := r12_looking_shapes_loop c tr hN top l k h1 h2 l [] N [] rfl (by omega) (by simp)
 exact ⟨n', s', g1, fun h => by simpa using g2 h⟩
end
def cnt (l : List State) : Int := (l.map fun s => (s.Trans.length : Int)).sum
theorem cnt_pos : ∀ l, 0 ≤ cnt l
 | [] => by simp [cnt]
 | s :: r => by have := cnt_pos r; unfold cnt at *; simp only [List.map_cons, List.sum_cons]; omega
def elF (P : Pr) (n : Int) (s : State) : Flt := orF (acFs P s.Entry) (orF (acFs P s.Exit) (trsF P n s.Trans))
theorem Nf_elF (P : Pr) (n : Int) (s : State) : Nf (elF P n s) := Nf_orF (Nf_acFs _ _) (Nf_orF (Nf_acFs _ _) (Nf_trsF _ _ _))
theorem inF_cons (P : Pr) (n : Int) (s : State) (r : List State) (h : okS s) : inF P n (s :: r) = orF (elF P n s) (inF P (n + s.Trans.length) r) := by
 unfold elF
 simp only [inF]
 split
 ·rename_i hh
  have h3 : 3 ≤ s.Kind := by
   unfold isH at hh
   simp only [Bool.or_eq_true, beq_iff_eq] at hh
   omega
  obtain ⟨e1, e2, e3, e4⟩ := (okS_kind h).2.1 h3
  rw [e1, e2, e3]
  simp only [acFs, trsF, orF_zero, List.length_nil, Int.natCast_zero, Int.add_zero]
  rw [zero_orF (Nf_inF _ _ _)]
 ·simp only [orF_assoc]
theorem inF_app (P : Pr) : ∀ (a b : List State) (n : Int), (∀ s ∈ a, okS s) → inF P n (a ++ b) = orF (inF P n a) (inF P (n + cnt a) b)
 | [], b, n, _ => by simp only [List.nil_append, inF, cnt, List.map_nil, List.sum_nil, Int.add_zero]; rw [zero_orF (Nf_inF _ _ _)]
 | s :: r, b, n, h => by
  rw [List.cons_append, inF_cons P n s _ (h s (List.mem_cons_self ..)), inF_cons P n s r (h s (List.mem_cons_self ..)), inF_app P r b _ fun x hx => h x (List.mem_cons_of_mem _ hx), orF_assoc]
  have : n + ↑s.Trans.length + cnt r = n + cnt (s :: r) := by unfold cnt; simp only [List.map_cons, List.sum_cons]; omega
  rw [this]
section
variable {R : Type} {N : Nat}
theorem rinner_eqd (c : Chart) (names states : List (List UInt8)) (hN : big ≤ N) (hc : ChLen c) (hs : states.length < big) (hn : names.length < big) : ∀ (d : Nat) (R : Type) (l : List State) (n : Int) (k : Int → Int → Int → Option R), szSs l < d → szSs l < 20000 → okSs l → 0 ≤ n → n ≤ 96 →
  ∃ n', (Fam_r12_looking_inner_at N d).r12_looking_inner R l c.Name c.Steps c.Fuel c.Vars c.Ports c.Timers c.States c.At n names states k = k (inF (prR c names states) n (flL l)).1 (inF (prR c names states) n (flL l)).2 n' ∧ ((inF (prR c names states) n (flL l)).1 = 0 → n' = n + cnt (flL l) ∧ n' ≤ 96) := by
 have hb : big = 1000000000 := rfl
 intro d
 induction d with
 | zero => intro R l n k h; have := szSs_pos l; omega
 | succ d ih =>
  intro R l n0 k hd hsz hok hn0 hn1
  rw [r12_looking_inner_at]
  unfold r12_looking_inner_d
  have hll := szSs_len l
  have key : ∀ (rest pre : List State) (m : Nat) (n : Int), l = pre ++ rest → rest.length < m → 0 ≤ n → n ≤ 96 →
    ∃ n', r12_looking_inner_l0 (Fam_r12_looking_inner_at N d) N l c.Name c.Steps c.Fuel c.Vars c.Ports c.Timers c.States c.At names states 0 0 (fun y => k 0 0 y) (fun y z w => k z w y) m pre.length n = k (inF (prR c names states) n (flL rest)).1 (inF (prR c names states) n (flL rest)).2 n' ∧ ((inF (prR c names states) n (flL rest)).1 = 0 → n' = n + cnt (flL rest) ∧ n' ≤ 96) := by
   intro rest
   induction rest with
   | nil =>
    intro pre m n h hm h0 h1
    obtain ⟨m, rfl⟩ : ∃ q, m = q + 1 := ⟨m - 1, by omega⟩
    have : l = pre := by simpa using h
    subst this
    refine ⟨n, ?_, fun _ => by simp [flL, cnt]; omega⟩
    simp only [r12_looking_inner_l0, r12_looking_inner_l0_b, flL, inF]
    simp
   | cons e r ihr =>
    intro pre m n h hm h0 h1
    obtain ⟨m, rfl⟩ : ∃ q, m = q + 1 := ⟨m - 1, by omega⟩
    have hlen : l.length = pre.length + (r.length + 1) := by rw [h]; simp
    have he : e ∈ l := by rw [h]; simp
    have hes := szSs_mem l e he
    have hk := szS_kids e
    have hoe := okSs_mem hok e he
    have hok4 := (okS_kind hoe).2.2
    have hfk := okSs_fl e.Kids hok4
    obtain ⟨q1, q2, q3⟩ := szS_parts e
    have q4 := szTs_len e.Trans
    have hat : at? l pre.length = some e := at_some (by omega) (by rw [h]; simp)
    have hdc : decide (((pre.length : Nat) : Int) < ((l.length : Nat) : Int)) = true := by simp; omega
    have hr : IntKind.wrap .i64 (((pre.length : Nat) : Int) + 1) = (((pre ++ [e]).length : Nat) : Int) := by rw [wr _ (by omega) (by omega)]; simp
    have hin : inF (prR c names states) n (flL (e :: r)) = orF (elF (prR c names states) n e) (orF (inF (prR c names states) (n + e.Trans.length) (flL e.Kids)) (inF (prR c names states) (n + e.Trans.length + cnt (flL e.Kids)) (flL r))) := by
     simp only [flL, flS_cons, List.cons_append]
     rw [inF_cons _ _ _ _ hoe, inF_app _ _ _ _ hfk]
    rw [hin]
    have hcnt : cnt (flL (e :: r)) = e.Trans.length + cnt (flL e.Kids) + cnt (flL r) := by
     simp only [flL, flS_cons, List.cons_append]
     unfold cnt
     simp only [List.map_cons, List.sum_cons, List.map_append, List.sum_append]; omega
    rw [hcnt]
    simp only [r12_looking_inner_l0, r12_looking_inner_l0_b, hdc, hat, if_true, Option.bind_some]
    rw [racts_eq c names states n hN hc hs _ _ (by omega), kf_eq]
    -- the walk over transitions
    have l2 : ∀ (kp : Int → Int → Int → Option R) x1 x2 x3 x4 x5 x6 x7 x8, ∀ (rest2 pre2 : List Trans) (q : Nat) (n : Int) (f : Flt), e.Trans = pre2 ++ rest2 → rest2.length + 1 < q → 0 ≤ n → n ≤ 96 → Nf f →
      ∃ n', r12_looking_inner_l2 (Fam_r12_looking_inner_at N d) N l pre.length c.Name c.Steps c.Fuel c.Vars c.Ports c.Timers c.States c.At names states x1 x2 x3 x4 x5 x6 e.Trans x7 x8 kp q pre2.length n f.1 f.2 = kp n' (thenF f (trsF (prR c names states) n rest2)).1 (thenF f (trsF (prR c names states) n rest2)).2 ∧ ((thenF f (trsF (prR c names states) n rest2)).1 = 0 → n' = n + rest2.length ∧ n' ≤ 96) := by
     intro kp x1 x2 x3 x4 x5 x6 x7 x8 rest2
     induction rest2 with
     | nil =>
      intro pre2 q n f h' hq h0 h1 hf
      obtain ⟨q, rfl⟩ : ∃ w, q = w + 1 := ⟨q - 1, by omega⟩
      have hp2 : e.Trans = pre2 := by simpa using h'
      refine ⟨n, ?_, fun _ => by simp; omega⟩
      simp only [r12_looking_inner_l2, r12_looking_inner_l2_b, ifB_and, Option.bind_some, trsF]
      have : decide (((pre2.length : Nat) : Int) < ((e.Trans.length : Nat) : Int)) = false := by rw [hp2]; simp
      rw [this, Bool.and_false]
      simp only [Bool.false_eq_true, if_false, thenF]
      split
      ·rename_i hz; rw [hf hz]
      ·rfl
     | cons t r2 ih2 =>
      intro pre2 q n f h' hq h0 h1 hf
      obtain ⟨q, rfl⟩ : ∃ w, q = w + 1 := ⟨q - 1, by omega⟩
      have hlen2 : e.Trans.length = pre2.length + (r2.length + 1) := by rw [h']; simp
      have ht : t ∈ e.Trans := by rw [h']; simp
      have hts := szTs_mem ht
      by_cases hz : f.1 = 0
      ·have hat2 : at? e.Trans pre2.length = some t := at_some (by omega) (by rw [h']; simp)
       have hdc2 : decide (((pre2.length : Nat) : Int) < ((e.Trans.length : Nat) : Int)) = true := by simp; omega
       have hr2 : IntKind.wrap .i64 (((pre2.length : Nat) : Int) + 1) = (((pre2 ++ [t]).length : Nat) : Int) := by rw [wr _ (by omega) (by omega)]; simp
       have hz' : (f.1 == 0) = true := by simp [hz]
       simp only [r12_looking_inner_l2, r12_looking_inner_l2_b, ifB_and, Option.bind_some, hz', hdc2, hat2, Bool.and_self, if_true]
       obtain ⟨n1, g1, g2⟩ := rone_eq c names states n hN hc hs hn t (fun r72 r73 r74 => r12_looking_inner_l2 (Fam_r12_looking_inner_at N d) N l pre.length c.Name c.Steps c.Fuel c.Vars c.Ports c.Timers c.States c.At names states x1 x2 x3 x4 x5 x6 e.Trans x7 x8 kp q (IntKind.wrap .i64 (((pre2.length : Nat) : Int) + 1)) r74 r72 r73) (by omega) h0 h1
       rw [g1]
       have hth : thenF f (trsF (prR c names states) n (t :: r2)) = orF (trF (prR c names states) (n + 1) t) (trsF (prR c names states) (n + 1) r2) := by
        simp [thenF, hz, trsF]
       rw [hth]
       by_cases hz2 : (trF (prR c names states) (n + 1) t).1 = 0
       ·obtain ⟨rfl, g3⟩ := g2 hz2
        obtain ⟨n2, g4, g5⟩ := ih2 (pre2 ++ [t]) q (n + 1) (trF (prR c names states) (n + 1) t) (by rw [h']; simp) (by simp at hq; omega) (by omega) g3 (Nf_trF _ _ _)
        rw [orF_then (Nf_trF _ _ _) (Nf_trsF _ _ _)]
        refine ⟨n2, ?_, fun hz3 => ?_⟩
        ·rw [hr2]; exact g4
        ·have := g5 hz3
         simp only [List.length_cons]; omega
       ·obtain ⟨q, rfl⟩ : ∃ w, q = w + 1 := ⟨q - 1, by omega⟩
        refine ⟨n1, ?_, fun hz3 => absurd (orF_fst.1 hz3).1 hz2⟩
        rw [orF_ne _ hz2]
        have hne : ((trF (prR c names states) (n + 1) t).1 == 0) = false := by simp [hz2]
        simp only [r12_looking_inner_l2, r12_looking_inner_l2_b, ifB_and, Option.bind_some, hne, Bool.false_and, Bool.false_eq_true, if_false]
      ·have hne : (f.1 == 0) = false := by simp [hz]
       refine ⟨n, ?_, fun h3 => ?_⟩
       ·simp only [r12_looking_inner_l2, r12_looking_inner_l2_b, ifB_and, Option.bind_some, hne, Bool.false_and, Bool.false_eq_true, if_false, thenF, hz]
       ·simp [thenF, hz] at h3
    have c14 : ∀ (f : Flt) (a b : Option R) x1 x2 x3 x4 x5 x6 x7 x8 x9 x10 x11 x12 x13 x14 x15, r12_looking_inner_c14 (Fam_r12_looking_inner_at N d) N x1 x2 x3 x4 x5 x6 x7 x8 x9 x10 x11 x12 x13 x14 x15 f.1 f.2 a b = if f.1 = 0 then b else a := by
     intro f a b x1 x2 x3 x4 x5 x6 x7 x8 x9 x10 x11 x12 x13 x14 x15
     unfold r12_looking_inner_c14
     by_cases hz : f.1 = 0
     ·rw [if_neg (by simp [hz]), if_pos hz]
     ·rw [if_pos (by simp [hz]), if_neg hz]
    have c8 : ∀ (f : Flt), Nf f → orF f (trsF (prR c names states) n e.Trans) = elF (prR c names states) n e → ∃ n', r12_looking_inner_c8 (Fam_r12_looking_inner_at N d) N l pre.length c.Name c.Steps c.Fuel c.Vars c.Ports c.Timers c.States c.At n names states 0 0 e.Kind e.Name e.Entry e.Exit e.Trans e.Kids e.At f.1 f.2 (fun y z w => k z w y) (fun y => r12_looking_inner_l0 (Fam_r12_looking_inner_at N d) N l c.Name c.Steps c.Fuel c.Vars c.Ports c.Timers c.States c.At names states 0 0 (fun y => k 0 0 y) (fun y z w => k z w y) m (IntKind.wrap .i64 (((pre.length : Nat) : Int) + 1)) y) =
      k (orF (elF (prR c names states) n e) (orF (inF (prR c names states) (n + e.Trans.length) (flL e.Kids)) (inF (prR c names states) (n + e.Trans.length + cnt (flL e.Kids)) (flL r)))).1 (orF (elF (prR c names states) n e) (orF (inF (prR c names states) (n + e.Trans.length) (flL e.Kids)) (inF (prR c names states) (n + e.Trans.length + cnt (flL e.Kids)) (flL r)))).2 n' ∧ ((orF (elF (prR c names states) n e) (orF (inF (prR c names states) (n + e.Trans.length) (flL e.Kids)) (inF (prR c names states) (n + e.Trans.length + cnt (flL e.Kids)) (flL r)))).1 = 0 → n' = n + (e.Trans.length + cnt (flL e.Kids) + cnt (flL r)) ∧ n' ≤ 96) := by
     intro f hf hfe
     unfold r12_looking_inner_c8
     obtain ⟨n1, g1, g2⟩ := l2 (fun (y75 : Int) (y76 : Int) (y77 : Int) =>
 if (y76 == 0) = true then
  ((Fam_r12_looking_inner_at N d).r12_looking_inner _ e.Kids c.Name c.Steps c.Fuel c.Vars c.Ports c.Timers c.States c.At y75 names states (fun (r78 : Int) (r79 : Int) (r80 : Int) =>
  r12_looking_inner_c14 (Fam_r12_looking_inner_at N d) N l pre.length c.Name c.Steps c.Fuel c.Vars c.Ports c.Timers c.States c.At r80 names states 0 0 r78 r79 (k r78 r79 r80)
   (r12_looking_inner_l0 (Fam_r12_looking_inner_at N d) N l c.Name c.Steps c.Fuel c.Vars c.Ports c.Timers c.States c.At names states 0 0 (fun y => k 0 0 y) (fun y z w => k z w y) m (IntKind.wrap .i64 (((pre.length : Nat) : Int) + 1)) r80)))
 else
  (r12_looking_inner_c14 (Fam_r12_looking_inner_at N d) N l pre.length c.Name c.Steps c.Fuel c.Vars c.Ports c.Timers c.States c.At y75 names states 0 0 y76 y77 (k y76 y77 y75)
   (r12_looking_inner_l0 (Fam_r12_looking_inner_at N d) N l c.Name c.Steps c.Fuel c.Vars c.Ports c.Timers c.States c.At names states 0 0 (fun y => k 0 0 y) (fun y z w => k z w y) m (IntKind.wrap .i64 (((pre.length : Nat) : Int) + 1)) y75))) 0 0 e.Kind e.Name e.Entry e.Exit e.Kids e.At e.Trans [] N n f rfl (by omega) h0 h1 hf
     rw [orF_then hf (Nf_trsF _ _ _)] at hfe
     rw [hfe] at g1 g2
     simp only [List.length_nil] at g1
     refine (show ∃ n', _ = _ ∧ _ from ?_)
     rw [show (((0 : Nat) : Int)) = 0 from rfl] at g1
     rw [g1]
     by_cases hz : (elF (prR c names states) n e).1 = 0
     ·obtain ⟨rfl, g3⟩ := g2 hz
      rw [if_pos (by simp [hz])]
      obtain ⟨n2, g4, g5⟩ := ih R e.Kids (n + e.Trans.length) (fun (r78 : Int) (r79 : Int) (r80 : Int) =>
  r12_looking_inner_c14 (Fam_r12_looking_inner_at N d) N l pre.length c.Name c.Steps c.Fuel c.Vars c.Ports c.Timers c.States c.At r80 names states 0 0 r78 r79 (k r78 r79 r80)
   (r12_looking_inner_l0 (Fam_r12_looking_inner_at N d) N l c.Name c.Steps c.Fuel c.Vars c.Ports c.Timers c.States c.At names states 0 0 (fun y => k 0 0 y) (fun y z w => k z w y) m (IntKind.wrap .i64 (((pre.length : Nat) : Int) + 1)) r80)) (by omega) (by omega) hok4 (by omega) g3
      rw [g4, c14, (Nf_elF _ _ _) hz, zero_orF (Nf_orF (Nf_inF _ _ _) (Nf_inF _ _ _))]
      by_cases hz2 : (inF (prR c names states) (n + e.Trans.length) (flL e.Kids)).1 = 0
      ·obtain ⟨rfl, g6⟩ := g5 hz2
       have hcp := cnt_pos (flL e.Kids)
       rw [if_pos hz2, hr]
       obtain ⟨n3, g7, g8⟩ := ihr (pre ++ [e]) m (n + e.Trans.length + cnt (flL e.Kids)) (by rw [h]; simp) (by simp at hm; omega) (by omega) g6
       rw [(Nf_inF _ _ _) hz2, zero_orF (Nf_inF _ _ _)]
       exact ⟨n3, g7, fun hz3 => by have := g8 hz3; omega⟩
      ·rw [if_neg hz2, orF_ne _ hz2]
       exact ⟨n2, rfl, fun h3 => absurd h3 hz2⟩
     ·rw [if_neg (by simp [hz]), c14, if_neg hz, orF_ne _ hz]
      exact ⟨n1, rfl, fun h3 => absurd h3 hz⟩
    by_cases hz : (acFs (prR c names states) e.Entry).1 = 0
    ·rw [if_pos (by simp [hz]), racts_eq c names states n hN hc hs _ _ (by omega), kf_eq]
     refine c8 _ (Nf_acFs _ _) ?_
     unfold elF
     rw [(Nf_acFs _ _) hz, zero_orF (Nf_orF (Nf_acFs _ _) (Nf_trsF _ _ _))]
    ·rw [if_neg (by simp [hz])]
     refine c8 _ (Nf_acFs _ _) ?_
     unfold elF
     rw [orF_ne _ hz, orF_ne _ hz]
  exact key l [] N n0 rfl (by omega) hn0 hn1
theorem rinner_eq (c : Chart) (names states : List (List UInt8)) (hN : big ≤ N) (hc : ChLen c) (hs : states.length < big) (hn : names.length < big) (l : List State) (k : Int → Int → Int → Option R) (h1 : szSs l < 20000) (h2 : okSs l) :
  ∃ n', r12_looking_inner N l c.Name c.Steps c.Fuel c.Vars c.Ports c.Timers c.States c.At 0 names states k = k (inF (prR c names states) 0 (flL l)).1 (inF (prR c names states) 0 (flL l)).2 n' := by
 have hb : big = 1000000000 := rfl
 unfold r12_looking_inner
 obtain ⟨n', g, _⟩ := rinner_eqd c names states hN hc hs hn N R l 0 k (by omega) h1 h2 (by omega) (by omega)
 exact ⟨n', g⟩
end
def Uq (l : List State) : Prop := (l.map (·.Name)).Nodup
theorem chkS_name {top : Bool} {out : List State} {s : State} (h : (chkS top out s).1 = 0) : ∀ x ∈ out, x.Name ≠ s.Name := by
 unfold chkS at h
 have h1 := (orF_fst.1 (orF_fst.1 h).2).1
 rw [chk_fst (by decide)] at h1
 intro x hx hc
 have := List.any_eq_false.1 (by simpa using h1 : (out.any fun e => e.Name == s.Name) = false) x hx
 simp [hc] at this
theorem Uq_snoc {out : List State} {s : State} (h : Uq out) (hn : ∀ x ∈ out, x.Name ≠ s.Name) : Uq (out ++ [s]) := by
 unfold Uq at *
 rw [List.map_append, List.nodup_append]
 refine ⟨h, by simp, fun a ha b hb => ?_⟩
 obtain ⟨x, hx, rfl⟩ := List.mem_map.1 ha
 simp only [List.map_cons, List.map_nil, List.mem_singleton] at hb
 subst hb
 exact hn x hx
theorem trL_uq : ∀ (l : List State) (top : Bool) (out : List State), Uq out → (trL top out l).1 = 0 → Uq (out ++ flL l) := by
 intro l
 refine State.rec_1 (motive_1 := fun s => ∀ (top : Bool) (out : List State), Uq out → (tr1 top out s).1 = 0 → Uq (out ++ flS s)) (motive_2 := fun l => ∀ (top : Bool) (out : List State), Uq out → (trL top out l).1 = 0 → Uq (out ++ flL l)) ?_ ?_ ?_ l
 ·intro k n en ex tr kids a ih top out hu h
  rw [tr1_eq] at h
  obtain ⟨h1, h2⟩ := orF_fst.1 h
  have := ih false _ (Uq_snoc hu (chkS_name h1)) h2
  rw [flS_cons]
  simpa using this
 ·intro top out hu _
  simpa [flL] using hu
 ·intro s r h1 h2 top out hu h
  simp only [trL] at h
  obtain ⟨g1, g2⟩ := orF_fst.1 h
  have := h2 top _ (h1 top out hu g1) g2
  simpa [flL] using this
theorem findS_eq : ∀ {l : List State} (s : List UInt8), Uq l → findS l s = (stN l).any fun e => e == s
 | [], s, _ => rfl
 | x :: r, s, h => by
  have h' : Uq r := by unfold Uq at *; simp only [List.map_cons, List.nodup_cons] at h; exact h.2
  have hx : ∀ y ∈ r, y.Name ≠ x.Name := by
   unfold Uq at h
   simp only [List.map_cons, List.nodup_cons] at h
   intro y hy hc
   exact h.1 (List.mem_map.2 ⟨y, hy, hc⟩)
  have ih := findS_eq s h'
  have hst : stN (x :: r) = (if isH x = true then stN r else x.Name :: stN r) := by
   unfold stN
   cases hh : isH x <;> simp [List.filter_cons, hh]
  rw [hst]
  by_cases hn : x.Name = s
  ·have hnone : (stN r).any (fun e => e == s) = false := by
    rw [List.any_eq_false]
    intro e he hc
    unfold stN at he
    obtain ⟨y, hy, rfl⟩ := List.mem_map.1 he
    have := hx y (List.mem_filter.1 hy).1
    simp only [beq_iff_eq] at hc
    exact this (hc.trans hn.symm)
   unfold findS
   simp only [List.find?_cons, hn, beq_self_eq_true]
   cases hh : isH x <;> simp [hnone]
  ·have hb : (x.Name == s) = false := by simpa using hn
   have : findS (x :: r) s = findS r s := by
    unfold findS
    simp only [List.find?_cons, hb]
   rw [this, ih]
   cases hh : isH x <;> simp [hb]
theorem pr_eq (c : Chart) {l : List State} (h : Uq l) : prR c (l.map (·.Name)) (stN l) = prOf c l := by
 unfold prR prOf
 congr 1
 ·funext s; exact (findS_eq s h).symm
 ·funext s; exact any_mapS l s
section
variable {R : Type} {N : Nat}
theorem rchart_eq (pre : List Chart) (c : Chart) (rest l : List Chart) (k : Int → Int → Option R) (hN : big ≤ N) (hl : l.length < big) (hc : ChOk c) (h : l = pre ++ c :: rest) : r12_chart N l pre.length k = kf k (chartG pre c) := by
 have hb : big = 1000000000 := rfl
 have hlen : l.length = pre.length + (rest.length + 1) := by rw [h]; simp
 obtain ⟨c1, c2, c3, c4, c5⟩ := hc
 have hcl : ChLen c := ⟨c1, c2, c3⟩
 have hat : at? l pre.length = some c := at_some (by omega) (by rw [h]; simp)
 have hll := szSs_len c.States
 unfold r12_chart
 rw [hat, Option.bind_some]
 generalize hrest : (((ifB (decide (c.Steps < 2)) false (some (decide (c.Steps > 16))) (some true)).bind fun c17 =>
 (ifB c17 false (some (decide (c.Fuel < 1))) (some true)).bind fun c18 =>
 (ifB c18 false (some (decide (c.Fuel > 4096))) (some true)).bind fun c19 =>
 if c19 = true then
  (k 16 c.At)
 else
  (r12_some N c.States (fun (r20 : Bool) =>
 if (!r20) = true then
  (k 7 c.At)
 else
  (r12_named N c.Vars 8 (fun (r21 : Int) (r22 : Int) =>
 r12_chart_c13 N 0 0 c.Name c.Steps c.Fuel c.Vars c.Ports c.Timers c.States c.At c.Name c.Steps c.Fuel c.Vars c.Ports c.Timers c.States c.At 0 r21 r22 (fun (y132 : Int) (y133 : Int) =>
 k y132 y133)))))) : Option R) = rst
 have hs := search (l := pre) (fun e => e.Name == c.Name) (fun j => if j < 0 then rst else k 8 c.At) (by omega) (fun n i => r12_chart_l0 N l pre.length 0 0 c.Name c.Steps c.Fuel c.Vars c.Ports c.Timers c.States c.At rst (fun y => k y c.At) n i) (fun n i e h0 h1 h2 h3 h4 => ?_) (fun n i hd => ?_) N (by omega)
 ·refine Eq.trans hs ?_
  have hany := idx_any' (fun e : Chart => e.Name == c.Name) pre
  unfold chartG
  by_cases hz : idx (fun e : Chart => e.Name == c.Name) pre < 0
  ·have ha : (pre.any fun e => e.Name == c.Name) = false := by
    have := hany
    rw [decide_eq_true hz] at this
    simpa using this.symm
   rw [if_pos hz, ha, Bool.not_false, chk_true, zero_orF (Nf_chF c), ← hrest]
   simp only [ifB_or, Option.bind_some]
   have hcnd : (((decide (c.Steps < 2) || decide (c.Steps > 16)) || decide (c.Fuel < 1)) || decide (c.Fuel > 4096)) = !(decide (c.Steps ≥ 2) && decide (c.Steps ≤ 16) && (decide (c.Fuel ≥ 1) && decide (c.Fuel ≤ 4096))) := by
    rw [Bool.eq_iff_iff]
    simp only [Bool.or_eq_true, decide_eq_true_eq, Bool.not_eq_true', Bool.and_eq_false_iff, decide_eq_false_iff_not]
    omega
   rw [hcnd]
   unfold chF chHead
   rcases Bool.eq_false_or_eq_true (decide (c.Steps ≥ 2) && decide (c.Steps ≤ 16) && (decide (c.Fuel ≥ 1) && decide (c.Fuel ≤ 4096))) with h16 | h16
   rotate_left
   ·rw [h16, Bool.not_false, if_pos rfl, chk_false, orF_ne (a := (16, c.At)) _ (by simp), orF_ne (a := (16, c.At)) _ (by simp)]; rfl
   rw [h16, Bool.not_true, if_neg (by simp), chk_true, r12some_eq _ _ hN (by omega), anyS_eq c5]
   rcases Bool.eq_false_or_eq_true (c.States.any fun e => !isH e) with h7 | h7
   rotate_left
   ·rw [h7, Bool.not_false, if_pos rfl, chk_false, orF_ne (a := (7, c.At)) _ (by simp), zero_orF (by intro h; simp at h), orF_ne (a := (7, c.At)) _ (by simp)]; rfl
   rw [h7, Bool.not_true, if_neg (by simp), chk_true]
   have n1 : Nf (gP (nameG 8) [] c.Vars) := Nf_gP (Nf_nameG _) _ _
   have n2 : Nf (gP (nameG 6) [] c.Ports) := Nf_gP (Nf_nameG _) _ _
   have n3 : Nf (gP (nameG 6) [] c.Timers) := Nf_gP (Nf_nameG _) _ _
   have n4 := Nf_trL c.States true []
   have n5 := Nf_inF (prOf c (flL c.States)) (flL c.States) 0
   rw [zero_orF (Nf_orF Nf_zero (Nf_orF n1 (Nf_orF n2 n3))), zero_orF (Nf_orF n1 (Nf_orF n2 n3))]
   rw [orF_assoc, orF_assoc, rnamed_eq _ _ _ hN (by omega) (by omega), kf_eq]
   -- the ends of the chain
   have c19 : ∀ (f : Flt) x1 x2 nm st, Nf f → (f.1 = 0 → nm = (flL c.States).map (·.Name) ∧ st = stN (flL c.States) ∧ (flL c.States).length ≤ 63 ∧ (trL true [] c.States).1 = 0) → r12_chart_c19 N x1 x2 c.Name c.Steps c.Fuel c.Vars c.Ports c.Timers c.States c.At c.Name c.Steps c.Fuel c.Vars c.Ports c.Timers c.States c.At 0 nm st f.1 f.2 (fun y z => k y z) = kf k (orF f (inF (prOf c (flL c.States)) 0 (flL c.States))) := by
    intro f x1 x2 nm st hf hq
    unfold r12_chart_c19
    by_cases hz : f.1 = 0
    ·obtain ⟨rfl, rfl, g3, g4⟩ := hq hz
     have hu := trL_uq c.States true [] (by simp [Uq]) g4
     have hsl : (stN (flL c.States)).length ≤ (flL c.States).length := by unfold stN; rw [List.length_map]; exact List.length_filter_le _ _
     rw [if_pos (by simp [hz])]
     obtain ⟨n', g⟩ := rinner_eq c ((flL c.States).map (·.Name)) (stN (flL c.States)) hN hcl (by omega) (by simp; omega) c.States (fun r117 r118 _ => k r117 r118) (by omega) c5
     rw [g, pr_eq c (by simpa using hu), hf hz, zero_orF n5]; rfl
    ·rw [if_neg (by simp [hz]), orF_ne _ hz]; rfl
   have c17 : ∀ (f : Flt) x1 x2, Nf f → r12_chart_c17 N x1 x2 c.Name c.Steps c.Fuel c.Vars c.Ports c.Timers c.States c.At c.Name c.Steps c.Fuel c.Vars c.Ports c.Timers c.States c.At 0 f.1 f.2 (fun y z => k y z) = kf k (orF f (orF (trL true [] c.States) (inF (prOf c (flL c.States)) 0 (flL c.States)))) := by
    intro f x1 x2 hf
    unfold r12_chart_c17
    by_cases hz : f.1 = 0
    ·rw [if_pos (by simp [hz])]
     obtain ⟨nm, st, g1, g2⟩ := rshape_eq c 0 hN true c.States (fun (r90 : Int) (r91 : Int) (r92 : List (List UInt8)) (r93 : List (List UInt8)) =>
  r12_chart_c19 N x1 x2 c.Name c.Steps c.Fuel c.Vars c.Ports c.Timers c.States c.At c.Name c.Steps c.Fuel c.Vars c.Ports c.Timers c.States c.At 0 r92 r93 r90 r91 (fun (y120 : Int) (y121 : Int) =>
  k y120 y121)) (by omega) c5
     rw [g1, c19 _ _ _ _ _ n4 (fun h0 => by obtain ⟨q1, q2, q3⟩ := g2 h0; exact ⟨q1, q2, q3, h0⟩), hf hz, zero_orF (Nf_orF n4 n5)]
    ·rw [if_neg (by simp [hz]), c19 _ _ _ _ _ hf (fun h0 => absurd h0 hz), orF_ne _ hz, orF_ne _ hz]
   have c15 : ∀ (f : Flt) x1 x2, Nf f → r12_chart_c15 N x1 x2 c.Name c.Steps c.Fuel c.Vars c.Ports c.Timers c.States c.At c.Name c.Steps c.Fuel c.Vars c.Ports c.Timers c.States c.At 0 f.1 f.2 (fun y z => k y z) = kf k (orF f (orF (gP (nameG 6) [] c.Timers) (orF (trL true [] c.States) (inF (prOf c (flL c.States)) 0 (flL c.States))))) := by
    intro f x1 x2 hf
    unfold r12_chart_c15
    by_cases hz : f.1 = 0
    ·rw [if_pos (by simp [hz]), rnamed_eq _ _ _ hN (by omega) (by omega), kf_eq, c17 _ _ _ n3, hf hz, zero_orF (Nf_orF n3 (Nf_orF n4 n5))]
    ·rw [if_neg (by simp [hz]), c17 _ _ _ hf, orF_ne _ hz, orF_ne _ hz]
   have c13 : ∀ (f : Flt) x1 x2, Nf f → r12_chart_c13 N x1 x2 c.Name c.Steps c.Fuel c.Vars c.Ports c.Timers c.States c.At c.Name c.Steps c.Fuel c.Vars c.Ports c.Timers c.States c.At 0 f.1 f.2 (fun y z => k y z) = kf k (orF f (orF (gP (nameG 6) [] c.Ports) (orF (gP (nameG 6) [] c.Timers) (orF (trL true [] c.States) (inF (prOf c (flL c.States)) 0 (flL c.States)))))) := by
    intro f x1 x2 hf
    unfold r12_chart_c13
    by_cases hz : f.1 = 0
    ·rw [if_pos (by simp [hz]), rnamed_eq _ _ _ hN (by omega) (by omega), kf_eq, c15 _ _ _ n2, hf hz, zero_orF (Nf_orF n2 (Nf_orF n3 (Nf_orF n4 n5)))]
    ·rw [if_neg (by simp [hz]), c15 _ _ _ hf, orF_ne _ hz, orF_ne _ hz]
   exact c13 _ _ _ n1
  ·have ha : (pre.any fun e => e.Name == c.Name) = true := by
    have := hany
    rw [decide_eq_false hz] at this
    simpa using this.symm
   rw [if_neg hz, ha, Bool.not_true, chk_false, orF_ne (a := (8, c.At)) _ (by simp)]; rfl
 ·have hi : l[i.toNat]? = some e := by rw [h, List.getElem?_append_left (by omega)]; exact h4
  have hdc : decide (i < ((pre.length : Nat) : Int)) = true := h2
  simp only [r12_chart_l0, r12_chart_l0_b, hdc, at_some h0 hi, if_true, Option.bind_some]
  by_cases hn : (e.Name == c.Name) = true
  ·rw [if_pos hn, if_pos hn, if_neg (by omega)]
  ·rw [if_neg hn, if_neg hn]
 ·simp only [r12_chart_l0, r12_chart_l0_b, hd]
  simp
end
theorem idx_pre {E : Type} (p : E → Bool) (x : E) (rest : List E) (hx : p x = true) : ∀ pre : List E, decide (idx p (pre ++ x :: rest) < ((pre.length : Nat) : Int)) = pre.any p
 | [] => by simp [idx, hx]
 | e :: r => by
  have ih := idx_pre p x rest hx r
  simp only [List.cons_append, idx, List.any_cons]
  cases he : p e with
  | true => simp
  | false =>
   have hany : (r ++ x :: rest).any p = true := by simp [hx]
   have hge : ¬ idx p (r ++ x :: rest) < 0 := by
    have := idx_any' p (r ++ x :: rest)
    rw [hany] at this
    exact of_decide_eq_false this
   simp only [Bool.false_eq_true, if_false, hge, Bool.false_or, ← ih, List.length_cons]
   simp only [decide_eq_decide]
   omega
theorem gP_map {E F : Type} (f : E → F) (g : F → Flt) : ∀ (l : List E) (pre : List E) (pre2 : List F), gP (fun _ y => g y) pre2 (l.map f) = gP (fun _ x => g (f x)) pre l
 | [], _, _ => rfl
 | e :: r, pre, pre2 => by simp only [List.map_cons, gP]; rw [gP_map f g r (pre ++ [e]) (pre2 ++ [f e])]
section
variable {R : Type} {N : Nat}
theorem rinsts_eq (A : Int) (Cs : List Chart) (Is : List Inst) (Hs : List Chan) (Es : List Cert) (k : Int → Int → Option R) (hN : big ≤ N) (hc : Cs.length < big) (hi : Is.length < big) : r12_insts N A Cs Is Hs Es k = kf k (gP (instG Cs) [] Is) := by
 have hb : big = 1000000000 := rfl
 unfold r12_insts
 have := (walks (instG Cs) (Nf_instG Cs) (fun _ => True) k hi (fun n i => r12_insts_l0 N A Cs Is Hs Es 0 0 (k 0 0) (fun y z => k y z) n i) (fun n pre e rest h _ h1 h2 => ⟨?_, fun _ => trivial⟩) (k 0 0) (fun n h _ => ?_) trivial N (by omega)).1
 ·rw [kf_nf (Nf_gP (Nf_instG _) _ _)] at this
  exact this
 ·simp only [r12_insts_l0, r12_insts_l0_b, h1, h2, if_true, Option.bind_some]
  rw [r12Inst_eq _ _ _ _ _ _ _ hN hi, show decide (idx (fun x => x.Name == e.Name) Is < ((pre.length : Nat) : Int)) = pre.any (fun x => x.Name == e.Name) by rw [h]; exact idx_pre _ _ _ (by simp) _]
  unfold instG
  rcases Bool.eq_false_or_eq_true (pre.any fun x => x.Name == e.Name) with h8 | h8
  ·rw [if_pos h8, h8, Bool.not_true, chk_false, orF_ne (a := (8, e.At)) _ (by simp), if_neg (by simp)]; rfl
  rw [if_neg (by simp [h8]), h8, Bool.not_false, chk_true, r12Chart_eq _ _ _ _ _ _ _ hN hc, idx_any', zero_orF (Nf_orF (Nf_chk _ _ (by decide)) (Nf_chk _ _ (by decide)))]
  rcases Bool.eq_false_or_eq_true (Cs.any fun x => x.Name == e.Chart) with h7 | h7
  rotate_left
  ·rw [h7, Bool.not_false, if_pos rfl, chk_false, orF_ne (a := (7, e.At)) _ (by simp), if_neg (by simp)]; rfl
  rw [h7, Bool.not_true, if_neg (by simp), chk_true, zero_orF (Nf_chk _ _ (by decide))]
  simp only [ifB_or, Option.bind_some]
  have hcnd : (((((decide (e.Quantum < 1) || decide (e.Quantum > 65536)) || decide (e.Ext < 0)) || decide (e.Ext > 32)) || decide (e.Prio < 0)) || decide (e.Prio > 7)) = !((decide (e.Quantum ≥ 1) && decide (e.Quantum ≤ 65536)) && (decide (e.Ext ≥ 0) && decide (e.Ext ≤ 32)) && (decide (e.Prio ≥ 0) && decide (e.Prio ≤ 7))) := by
   rw [Bool.eq_iff_iff]
   simp only [Bool.or_eq_true, decide_eq_true_eq, Bool.not_eq_true', Bool.and_eq_false_iff, decide_eq_false_iff_not]
   omega
  rw [hcnd]
  rcases Bool.eq_false_or_eq_true ((decide (e.Quantum ≥ 1) && decide (e.Quantum ≤ 65536)) && (decide (e.Ext ≥ 0) && decide (e.Ext ≤ 32)) && (decide (e.Prio ≥ 0) && decide (e.Prio ≤ 7))) with hr | hr
  ·rw [hr, Bool.not_true, if_neg (by simp), chk_true, if_pos rfl]
  ·rw [hr, Bool.not_false, if_pos rfl, chk_false, if_neg (by simp)]; rfl
 ·simp only [r12_insts_l0, r12_insts_l0_b, h]
  simp
def AllCh (Cs : List Chart) (Is : List Inst) : Prop := ∀ x ∈ Is, (Cs.any fun e => e.Name == x.Chart) = true
theorem gP_fst {E : Type} (g : List E → E → Flt) : ∀ (l pre : List E), (gP g pre l).1 = 0 → ∀ x ∈ l, ∃ p, (g p x).1 = 0
 | [], _, _, x, hx => by cases hx
 | e :: r, pre, h, x, hx => by
  simp only [gP] at h
  obtain ⟨h1, h2⟩ := orF_fst.1 h
  rcases List.mem_cons.1 hx with rfl | hx
  ·exact ⟨pre, h1⟩
  ·exact gP_fst g r _ h2 x hx
theorem allCh {Cs : List Chart} {Is : List Inst} (h : (gP (instG Cs) [] Is).1 = 0) : AllCh Cs Is := by
 intro x hx
 obtain ⟨p, hp⟩ := gP_fst _ _ _ h x hx
 unfold instG at hp
 have := (orF_fst.1 (orF_fst.1 hp).2).1
 rwa [chk_fst (by decide)] at this
theorem chOf_isSome {Cs : List Chart} {Is : List Inst} (h : AllCh Cs Is) (n : List UInt8) : (chOf Cs Is n).isSome = Is.any fun e => e.Name == n := by
 rw [← find_isSome]
 unfold chOf
 cases hf : Is.find? fun e => e.Name == n with
 | none => rfl
 | some i =>
  have := h i (List.mem_of_find?_eq_some hf)
  rw [← find_isSome] at this
  simpa using this
theorem rOf_eq (n : List UInt8) (A : Int) (Cs : List Chart) (Is : List Inst) (Hs : List Chan) (Es : List Cert) (k : (List UInt8) → Int → Int → (List Named) → (List Named) → (List Named) → (List State) → Int → Option R) (hN : big ≤ N) (hc : Cs.length < big) (hi : Is.length < big) (h : (chOf Cs Is n).isSome = true) :
  r12_Of N A Cs Is Hs Es n k = (fun c : Chart => k c.Name c.Steps c.Fuel c.Vars c.Ports c.Timers c.States c.At) ((chOf Cs Is n).getD c0) := by
 unfold r12_Of
 rw [r12Inst_eq _ _ _ _ _ _ _ hN hi]
 unfold chOf at h ⊢
 by_cases hz : idx (fun e => e.Name == n) Is < 0
 ·rw [find_none hz] at h; simp at h
 ·obtain ⟨e, h1, h2⟩ := find_at hz
  rw [h2] at h ⊢
  simp only [h1, Option.bind_some] at h ⊢
  rw [r12Chart_eq _ _ _ _ _ _ _ hN hc]
  by_cases hz2 : idx (fun x => x.Name == e.Chart) Cs < 0
  ·rw [find_none hz2] at h; simp at h
  ·obtain ⟨c, h3, h4⟩ := find_at hz2
   simp only [h3, h4, Option.bind_some]
   rfl
theorem rfrom_eq (pre rest l : List Chan) (a b : List UInt8) (A : Int) (Cs : List Chart) (Is : List Inst) (Es : List Cert) (k : Bool → Option R) (hN : big ≤ N) (hl : l.length < big) (h : l = pre ++ rest) : r12_from N A Cs Is l Es pre.length a b k = k (pre.any fun y => y.From == a && y.Port == b) := by
 have hb : big = 1000000000 := rfl
 have hlen : pre.length ≤ l.length := by rw [h]; simp
 unfold r12_from
 rw [← idx_any]
 refine search (fun y : Chan => y.From == a && y.Port == b) (fun j => k (decide (j ≥ 0))) (by omega) (fun n i => r12_from_l0 N pre.length a b A Cs Is l Es (k false) (fun y => k y) n i) (fun n i e h0 h1 h2 h3 h4 => ?_) (fun n i h => ?_) N (by omega)
 ·have hi : l[i.toNat]? = some e := by rw [h, List.getElem?_append_left (by omega)]; exact h4
  simp only [r12_from_l0, r12_from_l0_b, h2, at_some h0 hi, if_true, Option.bind_some, ifB_and]
  split
  ·simp [h0]
  ·rfl
 ·simp only [r12_from_l0, r12_from_l0_b, h]
  simp
theorem rchans_eq (A : Int) (Cs : List Chart) (Is : List Inst) (Hs : List Chan) (Es : List Cert) (k : Int → Int → Option R) (hN : big ≤ N) (hc : Cs.length < big) (hi : Is.length < big) (hh : Hs.length < big) (hcs : ∀ c ∈ Cs, ChOk' c) (hall : AllCh Cs Is) :
  r12_chans N A Cs Is Hs Es k = kf k (orF (gP (chanG Cs Is) [] Hs) (gP (fun _ x => joinG Cs Is Hs x) [] Is)) := by
 have hb : big = 1000000000 := rfl
 have hports : ∀ n, (((chOf Cs Is n).getD c0).Ports.length : Int) ≤ 16385 := fun n => (chOf_ok c0_ok hcs n).1.2.1
 unfold r12_chans
 -- ports of instances
 have l3 := (walks (fun _ x => joinG Cs Is Hs x) (fun _ x => Nf_joinG _ _ _ x) (fun _ => True) k hi (fun n i => r12_chans_l3 N A Cs Is Hs Es 0 0 (k 0 0) (fun y z => k y z) n i) (fun n pre e rest h _ h1 h2 => ⟨?_, fun _ => trivial⟩) (k 0 0) (fun n h _ => ?_) trivial N (by omega)).1
 rw [kf_nf (Nf_gP (fun _ x => Nf_joinG _ _ _ x) _ _)] at l3
 rw [l3]
 have l0 := (walks (chanG Cs Is) (Nf_chanG Cs Is) (fun _ => True) k hh (fun n i => r12_chans_l0 N A Cs Is Hs Es 0 0 (kf k (gP (fun _ x => joinG Cs Is Hs x) [] Is)) (fun y z => k y z) n i) (fun n pre e rest h _ h1 h2 => ⟨?_, fun _ => trivial⟩) (kf k (gP (fun _ x => joinG Cs Is Hs x) [] Is)) (fun n h _ => ?_) trivial N (by omega)).1
 ·refine Eq.trans l0 ?_
  have := Nf_gP (Nf_chanG Cs Is) Hs []
  by_cases hz : (gP (chanG Cs Is) [] Hs).1 = 0
  ·rw [if_pos hz, this hz, zero_orF (Nf_gP (fun _ x => Nf_joinG _ _ _ x) _ _)]
  ·rw [if_neg hz, orF_ne _ hz]
 ·simp only [r12_chans_l0, r12_chans_l0_b, h1, h2, if_true, Option.bind_some]
  rw [r12Chan_eq _ _ _ _ _ _ _ hN hh, show decide (idx (fun x => x.Name == e.Name) Hs < ((pre.length : Nat) : Int)) = pre.any (fun x => x.Name == e.Name) by rw [h]; exact idx_pre _ _ _ (by simp) _]
  unfold chanG
  rcases Bool.eq_false_or_eq_true (pre.any fun x => x.Name == e.Name) with h8 | h8
  ·rw [if_pos h8, h8, Bool.not_true, chk_false, orF_ne (a := (8, e.At)) _ (by simp), if_neg (by simp)]; rfl
  rw [if_neg (by simp [h8]), h8, Bool.not_false, chk_true, zero_orF (Nf_orF (Nf_chk _ _ (by decide)) (Nf_orF (Nf_chk _ _ (by decide)) (Nf_chk _ _ (by decide))))]
  simp only [r12Inst_eq _ _ _ _ _ _ _ hN hi, idx_any']
  have hof : (ifB (!Is.any fun x => x.Name == e.From) false (r12_Of N A Cs Is Hs Es e.From (fun (r12 : List UInt8) (r13 : Int) (r14 : Int) (r15 : List Named) (r16 : List Named) (r17 : List Named) (r18 : List State) (r19 : Int) =>
  r12_names N r16 (fun (r20 : List (List UInt8)) =>
  r12_has N r20 e.Port (fun (r21 : Bool) =>
  some (!r21))))) (some true)) = some (!((chOf Cs Is e.From).isSome && ((chOf Cs Is e.From).getD c0).Ports.any fun x => x.Name == e.Port)) := by
   have hs := chOf_isSome hall e.From
   rcases Bool.eq_false_or_eq_true (Is.any fun x => x.Name == e.From) with hf | hf
   ·rw [hf] at hs
    have hp := hports e.From
    rw [rOf_eq _ _ _ _ _ _ _ hN hc hi hs]
    dsimp only
    rw [rnames_eq _ _ hN (by omega), r12has_eq _ _ _ hN (by simp; omega), any_map_name, hf, hs]
    simp [ifB]
   ·rw [hf] at hs
    rw [hf, hs]
    simp [ifB]
  rw [hof]
  simp only [ifB_or, Option.bind_some]
  have hcnd : (!((chOf Cs Is e.From).isSome && ((chOf Cs Is e.From).getD c0).Ports.any fun x => x.Name == e.Port) || !Is.any fun x => x.Name == e.To) = !((chOf Cs Is e.From).isSome && (chOf Cs Is e.To).isSome && ((chOf Cs Is e.From).getD c0).Ports.any fun x => x.Name == e.Port) := by
   rw [chOf_isSome hall e.To]
   generalize (chOf Cs Is e.From).isSome = q1
   generalize (((chOf Cs Is e.From).getD c0).Ports.any fun x => x.Name == e.Port) = q2
   generalize (Is.any fun x => x.Name == e.To) = q3
   cases q1 <;> cases q2 <;> cases q3 <;> rfl
  rw [hcnd]
  unfold r12_chans_c8
  rcases Bool.eq_false_or_eq_true ((chOf Cs Is e.From).isSome && (chOf Cs Is e.To).isSome && ((chOf Cs Is e.From).getD c0).Ports.any fun x => x.Name == e.Port) with h7 | h7
  rotate_left
  ·rw [h7, Bool.not_false, if_pos rfl, chk_false, orF_ne (a := (7, e.At)) _ (by simp), if_neg (by simp)]; rfl
  rw [h7, Bool.not_true, if_neg (by simp), chk_true, zero_orF (Nf_orF (Nf_chk _ _ (by decide)) (Nf_chk _ _ (by decide))), rfrom_eq pre (e :: rest) Hs _ _ _ _ _ _ _ hN hh h]
  rcases Bool.eq_false_or_eq_true (pre.any fun y => y.From == e.From && y.Port == e.Port) with h9 | h9
  ·rw [h9, Bool.not_true, if_pos rfl, chk_false, orF_ne (a := (8, e.At)) _ (by simp), if_neg (by simp)]; rfl
  rw [h9, if_neg (by simp), Bool.not_false, chk_true, zero_orF (Nf_chk _ _ (by decide))]
  simp only [ifB_or, Option.bind_some]
  have hcnd : (((decide (e.Cap < 1) || decide (e.Cap > 32)) || decide (e.Prio < 0)) || decide (e.Prio > 7)) = !((decide (e.Cap ≥ 1) && decide (e.Cap ≤ 32)) && (decide (e.Prio ≥ 0) && decide (e.Prio ≤ 7))) := by
   rw [Bool.eq_iff_iff]
   simp only [Bool.or_eq_true, decide_eq_true_eq, Bool.not_eq_true', Bool.and_eq_false_iff, decide_eq_false_iff_not]
   omega
  rw [hcnd]
  rcases Bool.eq_false_or_eq_true ((decide (e.Cap ≥ 1) && decide (e.Cap ≤ 32)) && (decide (e.Prio ≥ 0) && decide (e.Prio ≤ 7))) with hr | hr
  ·rw [hr, Bool.not_true, if_neg (by simp), chk_true, if_pos rfl]
  ·rw [hr, Bool.not_false, if_pos rfl, chk_false, if_neg (by simp)]; rfl
 ·simp only [r12_chans_l0, r12_chans_l0_b, h]
  simp
 ·have he : e ∈ Is := by rw [h]; simp
  have hs : (chOf Cs Is e.Name).isSome = true := by
   rw [chOf_isSome hall, List.any_eq_true]
   exact ⟨e, he, by simp⟩
  have hp := hports e.Name
  simp only [r12_chans_l3, r12_chans_l3_b, h1, h2, if_true, Option.bind_some]
  rw [rOf_eq _ _ _ _ _ _ _ hN hc hi hs]
  dsimp only
  rw [rnames_eq _ _ hN (by omega)]
  have l5 := (walks (l := ((chOf Cs Is e.Name).getD c0).Ports.map (·.Name)) (fun _ nm => chk (Hs.any fun y => y.From == e.Name && y.Port == nm) 7 e.At) (fun _ _ => Nf_chk _ _ (by decide)) (fun _ => True) k (by simp; omega) (fun m i => r12_chans_l5 N pre.length (((chOf Cs Is e.Name).getD c0).Ports.map (·.Name)) A Cs Is Hs Es 0 0 (r12_chans_l3 N A Cs Is Hs Es 0 0 (k 0 0) (fun y z => k y z) n (IntKind.wrap .i64 (((pre.length : Nat) : Int) + 1))) (fun y z => k y z) m i) (fun m pre2 nm rest2 h' _ h1' h2' => ⟨?_, fun _ => trivial⟩) (r12_chans_l3 N A Cs Is Hs Es 0 0 (k 0 0) (fun y z => k y z) n (IntKind.wrap .i64 (((pre.length : Nat) : Int) + 1))) (fun m h' _ => ?_) trivial N (by simp; omega)).1
  ·rw [gP_map (fun n : Named => n.Name) (fun nm => chk (Hs.any fun y => y.From == e.Name && y.Port == nm) 7 e.At) _ [] []] at l5
   exact l5
  ·simp only [r12_chans_l5, r12_chans_l5_b, h1', h2', h2, if_true, Option.bind_some]
   rw [rfrom_eq Hs [] Hs _ _ _ _ _ _ _ hN hh (by simp)]
   rcases Bool.eq_false_or_eq_true (Hs.any fun y => y.From == e.Name && y.Port == nm) with h7 | h7
   ·rw [h7, Bool.not_true, if_neg (by simp), chk_true, if_pos rfl]
   ·rw [h7, Bool.not_false, if_pos rfl, chk_false, if_neg (by simp)]; rfl
  ·simp only [r12_chans_l5, r12_chans_l5_b, h']
   simp
 ·simp only [r12_chans_l3, r12_chans_l3_b, h]
  simp
end
def tri (n : Node) : Int × Int × List UInt8 := (n.Kind, n.Parent, n.Name)
def kindN (s : State) : Int := if s.Kind = 3 then 4 else if s.Kind = 4 then 5 else if s.Kind = 2 then 3 else if s.Kids.length = 0 then 1 else 2
mutual
def nS (up i : Int) : State → List (Int × Int × State)
 | ⟨k, n, en, ex, tr, kids, a⟩ => (i, up, ⟨k, n, en, ex, tr, kids, a⟩) :: nL i (i + 1) kids
def nL (up i : Int) : List State → List (Int × Int × State)
 | [] => []
 | s :: r => nS up i s ++ nL up (i + (flS s).length) r
end
theorem nS_cons (up i : Int) (s : State) : nS up i s = (i, up, s) :: nL i (i + 1) s.Kids := by cases s; simp [nS]
def triN (x : Int × Int × State) : Int × Int × List UInt8 := (kindN x.2.2, x.2.1, x.2.2.Name)
theorem nL_state : ∀ (l : List State) (up i : Int), (nL up i l).map (·.2.2) = flL l := by
 intro l
 refine State.rec_1 (motive_1 := fun s => ∀ up i, (nS up i s).map (·.2.2) = flS s) (motive_2 := fun l => ∀ up i, (nL up i l).map (·.2.2) = flL l) ?_ ?_ ?_ l
 ·intro k n en ex tr kids a ih up i
  rw [nS_cons, flS_cons, List.map_cons, ih]
 ·intro up i; simp [nL, flL]
 ·intro s r h1 h2 up i
  simp only [nL, flL, List.map_append, h1, h2]
theorem nL_len (l : List State) (up i : Int) : (nL up i l).length = (flL l).length := by rw [← nL_state l up i, List.length_map]
theorem map_set_tri {l : List Node} {i : Nat} {x y : Node} (h : l[i]? = some y) (ht : tri x = tri y) : (l.set i x).map tri = l.map tri := by
 rw [List.map_set]
 have : (l.map tri)[i]? = some (tri y) := by rw [List.getElem?_map, h]; rfl
 rw [ht]
 obtain ⟨hi, hv⟩ := List.getElem?_eq_some_iff.1 this
 rw [← hv]
 exact List.set_getElem_self hi
section
variable {R : Type} {N : Nat}
theorem rhist_eqd (hN : big ≤ N) : ∀ (d : Nat) (R : Type) (l : List State) (k : Bool → Option R), szSs l < d → szSs l < 20000 → okSs l → (Fam_r12_history_at N d).r12_history R l k = k ((flL l).any isH) := by
 have hb : big = 1000000000 := rfl
 intro d
 induction d with
 | zero => intro R l k h; have := szSs_pos l; omega
 | succ d ih =>
  intro R l k hd hs hok
  have hll := szSs_len l
  rw [r12_history_at]
  unfold r12_history_d
  have hany : ∀ l : List State, (flL l).any isH = l.any fun s => (flS s).any isH := by
   intro l
   induction l with
   | nil => rfl
   | cons s r ih => simp only [flL, List.any_append, List.any_cons, ih]
  rw [hany, ← idx_any]
  refine search (l := l) (fun s => (flS s).any isH) (fun j => k (decide (j ≥ 0))) (by omega) (fun n i => r12_history_l0 (Fam_r12_history_at N d) N l (k false) (fun y => k y) n i) (fun n i e h0 h1 h2 h3 h4 => ?_) (fun n i h => ?_) N (by omega)
  ·have he : e ∈ l := List.mem_of_getElem? h4
   have hoe := okSs_mem hok e he
   have := szSs_mem l e he
   have := szS_kids e
   simp only [r12_history_l0, r12_history_l0_b, h2, h3, if_true, Option.bind_some]
   rw [isState_eq, isS_eq hoe, Bool.not_not]
   simp only [ih _ _ _ (show szSs e.Kids < d by omega) (show szSs e.Kids < 20000 by omega) (okS_kind hoe).2.2, ifB_or, Option.bind_some]
   rw [flS_cons, List.any_cons]
   split
   ·simp [h0]
   ·rfl
  ·simp only [r12_history_l0, r12_history_l0_b, h]
   simp
theorem rhist_eq (hN : big ≤ N) (l : List State) (k : Bool → Option R) (h1 : szSs l < 20000) (h2 : okSs l) : r12_history N l k = k ((flL l).any isH) := by
 have hb : big = 1000000000 := rfl
 unfold r12_history
 exact rhist_eqd hN N R l k (by omega) h1 h2
theorem kind_eq (s : State) (k : Int → Option R) : r13_kind N s.Kind s.Name s.Entry s.Exit s.Trans s.Kids s.At k = k (kindN s) := by
 unfold r13_kind kindN
 by_cases h3 : s.Kind = 3
 ·rw [if_pos (by simp [h3]), if_pos h3]
 rw [if_neg (by simp [h3]), if_neg h3]
 by_cases h4 : s.Kind = 4
 ·rw [if_pos (by simp [h4]), if_pos h4]
 rw [if_neg (by simp [h4]), if_neg h4]
 by_cases h2 : s.Kind = 2
 ·rw [if_pos (by simp [h2]), if_pos h2]
 rw [if_neg (by simp [h2]), if_neg h2]
 by_cases hz : s.Kids.length = 0
 ·rw [if_pos (by simp [hz]), if_pos hz]
 ·rw [if_neg (by simpa using hz), if_neg hz]
theorem put_eqd (hN : big ≤ N) : ∀ (d : Nat) (R : Type) (kids : List State) (up : Int) (l : List Node) (k : List Node → Option R), szSs kids < d → szSs kids < 20000 → 0 ≤ up → up < l.length → l.length + szSs kids < 100000 →
  ∃ l', (Fam_r13_put_at N d).r13_put R kids up l k = k l' ∧ l'.map tri = l.map tri ++ (nL up l.length kids).map triN := by
 have hb : big = 1000000000 := rfl
 intro d
 induction d with
 | zero => intro R kids up l k h; have := szSs_pos kids; omega
 | succ d ih =>
  intro R kids up l k hd hs hu0 hu1 hlen
  rw [r13_put_at]
  unfold r13_put_d
  have hll := szSs_len kids
  have key : ∀ (rest pre : List State) (n : Nat) (l : List Node), kids = pre ++ rest → rest.length < n → up < l.length → l.length + szSs rest < 100000 →
    ∃ l', r13_put_l0 (Fam_r13_put_at N d) N kids up (fun y => k y) n pre.length l = k l' ∧ l'.map tri = l.map tri ++ (nL up l.length rest).map triN := by
   intro rest
   induction rest with
   | nil =>
    intro pre n l h hn _ _
    obtain ⟨n, rfl⟩ : ∃ m, n = m + 1 := ⟨n - 1, by omega⟩
    have : kids = pre := by simpa using h
    subst this
    exact ⟨l, by simp [r13_put_l0, r13_put_l0_b], by simp [nL]⟩
   | cons e r ihr =>
    intro pre n l h hn hul hsz
    obtain ⟨n, rfl⟩ : ∃ m, n = m + 1 := ⟨n - 1, by omega⟩
    have hlen : kids.length = pre.length + (r.length + 1) := by rw [h]; simp
    have he : e ∈ kids := by rw [h]; simp
    have hes := szSs_mem kids e he
    have hk := szS_kids e
    have hrp := szSs_pos r; have hkp := szSs_pos e.Kids
    obtain ⟨_, f2, _⟩ := flL_sz e.Kids
    simp only [szSs] at hsz
    have hat : at? kids pre.length = some e := at_some (by omega) (by rw [h]; simp)
    have hdc : decide (((pre.length : Nat) : Int) < ((kids.length : Nat) : Int)) = true := by simp; omega
    have hr : IntKind.wrap .i64 (((pre.length : Nat) : Int) + 1) = (((pre ++ [e]).length : Nat) : Int) := by rw [wr _ (by omega) (by omega)]; simp
    simp only [r13_put_l0, r13_put_l0_b, hdc, hat, if_true, Option.bind_some]
    rw [kind_eq, if_pos (by simp [maxRow]; omega)]
    generalize hnd : (⟨kindN e, up, 0, (-1), (-1), (-1), e.Name⟩ : Node) = nd
    have hl1 : (l ++ [nd]).length = l.length + 1 := by simp
    have hg1 : (0 : Int) ≤ up ∧ up < ((l ++ [nd]).length : Int) := ⟨hu0, by omega⟩
    have hg2 : (0 : Int) ≤ ((l.length : Nat) : Int) ∧ ((l.length : Nat) : Int) < ((l ++ [nd]).length : Int) := ⟨by omega, by omega⟩
    obtain ⟨y, hy⟩ : ∃ y, (l ++ [nd])[up.toNat]? = some y := ⟨_, List.getElem?_eq_getElem (by omega)⟩
    have hz : (l ++ [nd])[((l.length : Nat) : Int).toNat]? = some nd := by simp
    have htl : (l ++ [nd]).map tri = l.map tri ++ [triN (l.length, up, e)] := by
     rw [← hnd]; simp [tri, triN]
    -- the end of a round
    have c8 : ∀ l2 : List Node, l2.map tri = l.map tri ++ [triN (l.length, up, e)] → ∃ l', r13_put_c8 (Fam_r13_put_at N d) N kids up pre.length ((l.length : Nat) : Int) l2 (fun (y36 : List Node) => r13_put_l0 (Fam_r13_put_at N d) N kids up (fun y => k y) n (IntKind.wrap .i64 (((pre.length : Nat) : Int) + 1)) y36) = k l' ∧ l'.map tri = l.map tri ++ (nL up l.length (e :: r)).map triN := by
     intro l2 h2
     have hl2 : l2.length = l.length + 1 := by have := congrArg List.length h2; simpa using this
     unfold r13_put_c8
     rw [hat, Option.bind_some]
     obtain ⟨l3, g1, g2⟩ := ih R e.Kids l.length l2 (fun (r20 : List Node) =>
 if (0 : Int) ≤ ((l.length : Nat) : Int) ∧ ((l.length : Nat) : Int) < (r20.length : Int) then (match r20[((l.length : Nat) : Int).toNat]? with
  | some e21 => (r13_put_l0 (Fam_r13_put_at N d) N kids up (fun y => k y) n (IntKind.wrap .i64 (((pre.length : Nat) : Int) + 1)) (r20.set ((l.length : Nat) : Int).toNat (⟨e21.Kind, e21.Parent, IntKind.wrap .i64 (((r20.length : Nat) : Int) - 1), e21.Init, e21.Entry, e21.Exit, e21.Name⟩ : Node)))
  | none => none) else none) (by omega) (by omega) (by omega) (by omega) (by omega)
     have hl3 : l3.length = l.length + 1 + (flL e.Kids).length := by
      have := congrArg List.length g2
      simp only [List.length_map, List.length_append, nL_len] at this
      omega
     obtain ⟨w, hw⟩ : ∃ w, l3[((l.length : Nat) : Int).toNat]? = some w := ⟨_, List.getElem?_eq_getElem (by omega)⟩
     rw [if_pos ⟨by omega, by omega⟩, hw] at g1
     dsimp only at g1
     rw [hr] at g1 ⊢
     suffices hsuf : ∃ l', r13_put_l0 (Fam_r13_put_at N d) N kids up (fun y => k y) n (((pre ++ [e]).length : Nat) : Int) (l3.set ((l.length : Nat) : Int).toNat (⟨w.Kind, w.Parent, IntKind.wrap .i64 (((l3.length : Nat) : Int) - 1), w.Init, w.Entry, w.Exit, w.Name⟩ : Node)) = k l' ∧ l'.map tri = l.map tri ++ (nL up l.length (e :: r)).map triN by
      obtain ⟨l', q1, q2⟩ := hsuf
      exact ⟨l', g1.trans q1, q2⟩
     generalize hl4 : l3.set ((l.length : Nat) : Int).toNat (⟨w.Kind, w.Parent, IntKind.wrap .i64 (((l3.length : Nat) : Int) - 1), w.Init, w.Entry, w.Exit, w.Name⟩ : Node) = l4
     have ht4 : l4.map tri = l3.map tri := by rw [← hl4]; exact map_set_tri hw (x := ⟨w.Kind, w.Parent, IntKind.wrap .i64 (((l3.length : Nat) : Int) - 1), w.Init, w.Entry, w.Exit, w.Name⟩) rfl
     have hl4' : l4.length = l3.length := by rw [← hl4]; simp
     obtain ⟨l5, g3, g4⟩ := ihr (pre ++ [e]) n l4 (by rw [h]; simp) (by simp at hn; omega) (by omega) (by omega)
     refine ⟨l5, g3, ?_⟩
     rw [g4, ht4, g2, h2]
     have e1 : ((l4.length : Nat) : Int) = (l.length : Int) + ((flS e).length : Int) := by rw [flS_cons, List.length_cons]; omega
     have e2 : ((l2.length : Nat) : Int) = (l.length : Int) + 1 := by omega
     rw [e1, e2]
     simp [nL, nS_cons, triN]
    rw [if_pos hg1, hy]
    dsimp only
    rw [if_pos hg1, if_pos hg2, hz]
    dsimp only
    simp only [ifB_and, Option.bind_some]
    split
    ·exact c8 _ ((map_set_tri hy (x := ⟨y.Kind, y.Parent, y.Last, ((l.length : Nat) : Int), y.Entry, y.Exit, y.Name⟩) rfl).trans htl)
    ·exact c8 _ htl
  exact key kids [] N l rfl (by omega) hu1 hlen
def Tn (c : Chart) : List (Int × Int × List UInt8) := (2, -1, []) :: (nL 0 1 c.States).map triN
theorem nodes_eq (c : Chart) (k : List Node → Option R) (hN : big ≤ N) (h : szSs c.States < 20000) : ∃ nd, r13_Nodes N c.Name c.Steps c.Fuel c.Vars c.Ports c.Timers c.States c.At k = k nd ∧ nd.map tri = Tn c := by
 have hb : big = 1000000000 := rfl
 unfold r13_Nodes r13_put
 obtain ⟨l, g1, g2⟩ := put_eqd hN N R c.States 0 [(⟨2, (-1), 0, (-1), (-1), (-1), []⟩ : Node)] (fun (r1 : List Node) =>
 if (0 : Int) ≤ 0 ∧ 0 < (r1.length : Int) then (match r1[(Int.toNat 0)]? with
  | some e2 => (k (r1.set (Int.toNat 0) (⟨e2.Kind, e2.Parent, IntKind.wrap .i64 (((r1.length : Nat) : Int) - 1), e2.Init, e2.Entry, e2.Exit, e2.Name⟩ : Node)))
  | none => none) else none) (by omega) h (by omega) (by simp) (by simp; omega)
 have hl : l.length = 1 + (flL c.States).length := by
  have := congrArg List.length g2
  simpa [nL_len, Nat.add_comm] using this
 obtain ⟨w, hw⟩ : ∃ w, l[Int.toNat 0]? = some w := ⟨_, List.getElem?_eq_getElem (by show 0 < l.length; omega)⟩
 rw [if_pos ⟨by omega, by omega⟩, hw] at g1
 refine ⟨_, g1, ?_⟩
 refine (map_set_tri hw (x := ⟨w.Kind, w.Parent, IntKind.wrap .i64 (((l.length : Nat) : Int) - 1), w.Init, w.Entry, w.Exit, w.Name⟩) rfl).trans ?_
 rw [g2]
 simp [Tn, tri]
theorem rfind_eq (nd : List Node) (nm : List UInt8) (k : Int → Option R) (hN : big ≤ N) (hl : nd.length < big) : r13_Find N nd nm k = k (if idx (fun e : Node => e.Name == nm) (nd.drop 1) < 0 then -1 else idx (fun e : Node => e.Name == nm) (nd.drop 1) + 1) := by
 have hb : big = 1000000000 := rfl
 unfold r13_Find
 have hdl : (nd.drop 1).length = nd.length - 1 := by simp
 refine search (l := nd.drop 1) (fun e : Node => e.Name == nm) (fun j => k (if j < 0 then -1 else j + 1)) (by omega) (fun n i => r13_Find_l0 N nd nm (k (-1)) (fun y => k y) n (i + 1)) (fun n i e h0 h1 h2 h3 h4 => ?_) (fun n i h => ?_) N (by omega)
 ·have hi : nd[(i + 1).toNat]? = some e := by
   rw [List.getElem?_drop] at h4
   rw [show (i + 1).toNat = 1 + i.toNat by omega]; exact h4
  have hdc : decide (i + 1 < ((nd.length : Nat) : Int)) = true := by simp; omega
  simp only [r13_Find_l0, r13_Find_l0_b, hdc, at_some (show 0 ≤ i + 1 by omega) hi, if_true, Option.bind_some]
  rw [wr (i + 1 + 1) (by omega) (by omega), wr (i + 1) (by omega) (by omega)]
  by_cases hn : (e.Name == nm) = true
  ·rw [if_pos hn, if_pos hn, if_neg (by omega)]
  ·rw [if_neg hn, if_neg hn]
 ·have hdc : decide (i + 1 < ((nd.length : Nat) : Int)) = false := by
   have := of_decide_eq_false h
   simp; omega
  simp only [r13_Find_l0, r13_Find_l0_b, hdc]
  simp
end
end So
