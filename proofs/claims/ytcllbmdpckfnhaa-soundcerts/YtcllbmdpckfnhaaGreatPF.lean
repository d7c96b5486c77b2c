/- The reference's check in plain words: names, states, acts. -/
import Derived.Test.YtcllbmdpckfnhaaGreatPE
set_option maxRecDepth 1000000
set_option linter.unusedVariables false
set_option linter.unusedSimpArgs false
namespace So
open Go TE Go.Proofs
section
variable {E R : Type} {l : List E}
theorem Hj {A : Type} (f : List E → E → A → A) (Inv : List E → A → Prop) (K : A → Option R) (hl : l.length < big) (G : Nat → Int → A → Option R)
  (hG : ∀ n (pre : List E) e rest a, l = pre ++ e :: rest → Inv pre a → decide (((pre.length : Nat) : Int) < ((l.length : Nat) : Int)) = true → at? l pre.length = some e → G (n + 1) pre.length a = G n (IntKind.wrap .i64 (((pre.length : Nat) : Int) + 1)) (f pre e a) ∧ Inv (pre ++ [e]) (f pre e a))
  (h0 : ∀ n a, Inv l a → G (n + 1) l.length a = K a) : ∀ (rest pre : List E) (a : A) (n : Nat), l = pre ++ rest → Inv pre a → rest.length < n → G n pre.length a = K (uq f pre rest a) := by
 have hb : big = 1000000000 := rfl
 intro rest
 induction rest with
 | nil =>
  intro pre a n h hi hn
  obtain ⟨n, rfl⟩ : ∃ m, n = m + 1 := ⟨n - 1, by omega⟩
  have : l = pre := by simpa using h
  subst this
  rw [h0 _ _ hi]; rfl
 | cons e r ih =>
  intro pre a n h hi hn
  obtain ⟨n, rfl⟩ : ∃ m, n = m + 1 := ⟨n - 1, by omega⟩
  have hlen : l.length = pre.length + (r.length + 1) := by rw [h]; simp
  obtain ⟨h1, h2⟩ := hG n pre e r a h hi (by simp; omega) (bf (by omega) (by rw [h]; simp))
  rw [h1]
  rw [wr _ (by omega) (by omega), show ((pre.length : Int) + 1) = ((pre ++ [e]).length : Int) by simp, ih (pre ++ [e]) _ n (by rw [h]; simp) h2 (by simp at hn; omega)]
  rfl
theorem uz (g : List E → E → Flt) (hg : ∀ pre e, Nf (g pre e)) (Inv : List E → Prop) (k : Int → Int → Option R) (hl : l.length < big) (G : Nat → Int → Option R)
  (hG : ∀ n (pre : List E) e rest, l = pre ++ e :: rest → Inv pre → decide (((pre.length : Nat) : Int) < ((l.length : Nat) : Int)) = true → at? l pre.length = some e →
   G (n + 1) pre.length = (if (g pre e).1 = 0 then G n (IntKind.wrap .i64 (((pre.length : Nat) : Int) + 1)) else kf k (g pre e)) ∧ ((g pre e).1 = 0 → Inv (pre ++ [e])))
  (K0 : Option R) (h0 : ∀ n, decide (((l.length : Nat) : Int) < ((l.length : Nat) : Int)) = false → Inv l → G (n + 1) l.length = K0) (hi : Inv []) (N : Nat) (hN : l.length < N) :
  G N 0 = (if (gP g [] l).1 = 0 then K0 else kf k (gP g [] l)) ∧ ((gP g [] l).1 = 0 → Inv l) := by
 have := Uw (fun pre e (_ : Unit) => (g pre e, ())) (fun pre _ => Inv pre) (fun _ => K0) (fun f _ => kf k f) hl (fun n i _ => G n i) (fun n pre e rest a h hi h1 h2 => hG n pre e rest h hi h1 h2) (fun n a h hi => h0 n h hi) l [] () N rfl hi hN
 rw [OK hg] at this
 exact this
end
theorem bd (c a : Int) : chk true c a = (0, 0) := rfl
theorem aT (c a : Int) : chk false c a = (c, a) := rfl
theorem Gu {R : Type} {k : Int → Int → Option R} {f : Flt} (h : Nf f) : (if f.1 = 0 then k 0 0 else kf k f) = kf k f := by
 split
 ·rename_i h0; rw [h h0]; rfl
 ·rfl
section
variable {R : Type} {N : Nat}
theorem ph (l : List af) (k : List (List UInt8) → Option R) (hN : big ≤ N) (hl : (l.length : Int) ≤ 16386) : jk N l k = k (l.map (·.Name)) := by
 have hb : big = 1000000000 := rfl
 unfold jk
 have := Hj (fun _ e (a : List (List UInt8)) => a ++ [e.Name]) (fun pre a => a.length = pre.length) k (l := l) (by omega) (fun n i a => lS N l (fun y => k y) n i a) (fun n pre e rest a h hi h1 h2 => ⟨?_, by simp [hi]⟩) (fun n a hi => ?_) l [] [] N rfl rfl (by omega)
 ·rw [jt (fun (a : List (List UInt8)) (e : af) => a ++ [e.Name])] at this
  refine Eq.trans this ?_
  congr 1
  have : ∀ (l : List af) (a : List (List UInt8)), l.foldl (fun a e => a ++ [e.Name]) a = a ++ l.map (·.Name) := by
   intro l
   induction l with
   | nil => intro a; simp
   | cons e r ih => intro a; simp only [List.foldl_cons, ih, List.map_cons]; simp
  simpa using this l []
 ·have : pre.length ≤ l.length := by rw [h]; simp
  simp only [lS, oC, h1, h2, if_true, Option.bind_some]
  rw [if_pos (by simp [ak]; omega)]
 ·simp only [lS, oC]
  simp
theorem qW (l : List af) (s : List UInt8) : (l.map (·.Name)).any (fun e => e == s) = l.any fun e => e.Name == s := by
 rw [List.any_map]; rfl
theorem Cb (l : List af) (most : Int) (k : Int → Int → Option R) (hN : big ≤ N) (hl : (l.length : Int) ≤ 16386) (hm : 0 ≤ most) : pB N l most k = kf k (gP (mo most) [] l) := by
 have hb : big = 1000000000 := rfl
 unfold pB
 have := (uz (mo most) (qd most) (fun pre => (pre.length : Int) ≤ most) k (l := l) (by omega) (fun n i => lU N l most 0 0 (k 0 0) (fun y z => k y z) n i) (fun n pre e rest h hi h1 h2 => ?_) (k 0 0) (fun n h hi => ?_) (by simpa using hm) N (by omega)).1
 ·rw [Gu (fv (qd _) _ _)] at this
  exact this
 ·have hp : pre.length ≤ l.length := by rw [h]; simp
  have hpl : (pre.length : Int) ≤ 16386 := by omega
  simp only [lU, oD, h1, h2, if_true, Option.bind_some]
  by_cases hq : (pre.length : Int) = most
  ·have hq' : (((pre.length : Nat) : Int) == most) = true := by simp [hq]
   have hd : decide (((pre.length : Nat) : Int) < most) = false := by simp; omega
   have hg : mo most pre e = (15, e.At) := by
    unfold mo
    rw [hd]
    simp [chk, orF]
   rw [if_pos hq', hg]
   simp [kf]
  ·have hq' : ¬ (((pre.length : Nat) : Int) == most) = true := by simpa using hq
   have hd : decide (((pre.length : Nat) : Int) < most) = true := by simp; omega
   have hg : mo most pre e = chk (!pre.any fun x => x.Name == e.Name) 8 e.At := by
    unfold mo
    rw [hd]
    exact aG (aK _ _ (by decide))
   rw [if_neg hq', hg, if_pos (g01 hp), jZ h, ph _ _ hN hpl, eh _ _ _ hN (by simp; omega), qW]
   cases hz : pre.any fun x => x.Name == e.Name with
   | true => simp [chk, kf]
   | false => simp [chk]; omega
 ·simp only [lU, oD, h]
  simp
def prR (c : Chart) (names states : List (List UInt8)) : Pr := ⟨fun s => c.Vars.any fun e => e.Name == s, fun s => c.Ports.any fun e => e.Name == s, fun s => c.Timers.any fun e => e.Name == s, fun s => states.any fun e => e == s, fun s => names.any fun e => e == s⟩
theorem Md (P : Pr) : ∀ (l pre : List Expr), gP (fun _ e => exF P e) pre l = uw P l
 | [], _ => by simp [gP, uw]
 | e :: r, pre => by simp only [gP, uw]; rw [Md P r]
theorem Me (P : Pr) : ∀ (l pre : List Act), gP (fun _ e => acF P e) pre l = kA P l
 | [], _ => by simp [gP, kA]
 | e :: r, pre => by simp only [gP, kA]; rw [Me P r]
theorem Tg (P : Pr) (e : Expr) : Nf (exF P e) := by cases e; simp only [exF]; exact ao (aK _ _ (by decide)) (mU P _)
theorem Th (P : Pr) (e : Act) : Nf (acF P e) := by
 cases e; simp only [acF]
 exact ao (aK _ _ (by decide)) (ao (aK _ _ (by decide)) (ao (mU P _) (ao (dG P _) (dG P _))))
theorem Na (c : Chart) (names states : List (List UInt8)) (tr : Int) (hN : big ≤ N) (hc : rF c) (hs : states.length < big) : ∀ (d : Nat),
  (∀ (R : Type) (l : List Expr) (k : Int → Int → Option R), 2 * iT l < d → iT l < big → (aD N d).r12_looking_exprs R l c.Name c.Steps c.Fuel c.Vars c.Ports c.Timers c.States c.At tr names states k = kf k (uw (prR c names states) l)) ∧
  (∀ (R : Type) (e : Expr) (k : Int → Int → Option R), 2 * szE e - 1 < d → szE e < big → (aD N d).r12_looking_expr R e.Kind e.N e.Name e.Kids e.At c.Name c.Steps c.Fuel c.Vars c.Ports c.Timers c.States c.At tr names states k = kf k (exF (prR c names states) e)) := by
 have hb : big = 1000000000 := rfl
 intro d
 induction d with
 | zero => exact ⟨fun R l k h => by have := dH l; omega, fun R e k h => by have := DG e; omega⟩
 | succ d ih =>
  refine ⟨fun R l k hd hl => ?_, fun R e k hd hl => ?_⟩
  ·rw [ye]
   unfold gb
   have hll := xj l
   have := (uz (fun _ e => exF (prR c names states) e) (fun _ e => Tg _ e) (fun _ => True) k (l := l) (by omega) (fun n i => dx (aD N d) N l c.Name c.Steps c.Fuel c.Vars c.Ports c.Timers c.States c.At tr names states 0 0 (k 0 0) (fun y z => k y z) n i) (fun n pre e rest h hi h1 h2 => ⟨?_, fun _ => trivial⟩) (k 0 0) (fun n h hi => ?_) trivial N (by omega)).1
   ·rw [Md, Gu (mU _ _)] at this
    exact this
   ·have he : e ∈ l := by rw [h]; simp
    have := xk he
    simp only [dx, gu, h1, h2, if_true, Option.bind_some]
    rw [ih.2 _ _ _ (by omega) (by omega), bc]
    by_cases hz : (exF (prR c names states) e).1 = 0
    ·rw [if_neg (by simp [hz]), if_pos hz]
    ·rw [if_pos (by simp [hz]), if_neg hz]; rfl
   ·simp only [dx, gu, h]
    simp
  ·rw [zl]
   unfold gS
   obtain ⟨K, n, s, kids, a⟩ := e
   rw [qG] at hd hl
   have hv := hc.1
   simp only [ph _ _ hN (show (c.Vars.length : Int) ≤ 16386 by omega), eh _ _ _ hN (show (c.Vars.map (·.Name)).length < big by simp; omega), eh _ _ _ hN hs, ax, aZ, Option.bind_some, qW]
   rw [ih.1 _ _ _ (by omega) (by omega)]
   simp only [exF]
   have hcond : ((K == 2) && !(c.Vars.any fun e => e.Name == s) || (K == 4) && !(states.any fun e => e == s)) = !(if K = 2 then (prR c names states).v s else if K = 4 then (prR c names states).q s else true) := by
    by_cases h2 : K = 2
    ·subst h2; simp [prR]
    ·by_cases h4 : K = 4
     ·subst h4; simp [prR]
     ·have b2 : (K == 2) = false := by simp [h2]
      have b4 : (K == 4) = false := by simp [h4]
      simp [b2, b4, h2, h4]
   rw [hcond]
   cases (if K = 2 then (prR c names states).v s else if K = 4 then (prR c names states).q s else true) with
   | true =>
    simp only [Bool.not_true, Bool.false_eq_true, if_false, chk, if_true]
    rw [aG (mU _ _)]
   | false => simp [chk, orF, kf]
theorem Gv (c : Chart) (names states : List (List UInt8)) (tr : Int) (hN : big ≤ N) (hc : rF c) (hs : states.length < big) (l : List Expr) (k : Int → Int → Option R) (hl : iT l < 100000000) :
  r12_looking_exprs N l c.Name c.Steps c.Fuel c.Vars c.Ports c.Timers c.States c.At tr names states k = kf k (uw (prR c names states) l) := by
 have hb : big = 1000000000 := rfl
 unfold r12_looking_exprs
 exact (Na c names states tr hN hc hs N).1 R l k (by omega) (by omega)
theorem Nb (c : Chart) (names states : List (List UInt8)) (tr : Int) (hN : big ≤ N) (hc : rF c) (hs : states.length < big) : ∀ (d : Nat) (R : Type) (l : List Act) (k : Int → Int → Option R), eB l < d → eB l < 100000000 → (aV N d).r12_looking_acts R l c.Name c.Steps c.Fuel c.Vars c.Ports c.Timers c.States c.At tr names states k = kf k (kA (prR c names states) l) := by
 have hb : big = 1000000000 := rfl
 intro d
 induction d with
 | zero => intro R l k h; have := bg l; omega
 | succ d ih =>
  intro R l k hd hl
  rw [zm]
  unfold gT
  have hll := DX l
  have := (uz (fun _ e => acF (prR c names states) e) (fun _ e => Th _ e) (fun _ => True) k (l := l) (by omega) (fun n i => ew (aV N d) N l c.Name c.Steps c.Fuel c.Vars c.Ports c.Timers c.States c.At tr names states 0 0 (k 0 0) (fun y z => k y z) n i) (fun n pre e rest h hi h1 h2 => ⟨?_, fun _ => trivial⟩) (k 0 0) (fun n h hi => ?_) trivial N (by omega)).1
  ·rw [Me, Gu (dG _ _)] at this
   exact this
  ·have he : e ∈ l := by rw [h]; simp
   have hes := DY he
   obtain ⟨K, s, ev, X, nn, T, EE, at_⟩ := e
   rw [nr] at hes
   have p1 := dH X; have p2 := bg T; have p3 := bg EE
   obtain ⟨v1, v2, v3⟩ := hc
   simp only [ew, hO, h1, h2, if_true, Option.bind_some]
   simp only [ph _ _ hN (show (c.Vars.length : Int) ≤ 16386 by omega), ph _ _ hN (show (c.Ports.length : Int) ≤ 16386 by omega), ph _ _ hN (show (c.Timers.length : Int) ≤ 16386 by omega), eh _ _ _ hN (show (c.Vars.map (·.Name)).length < big by simp; omega), eh _ _ _ hN (show (c.Ports.map (·.Name)).length < big by simp; omega), eh _ _ _ hN (show (c.Timers.map (·.Name)).length < big by simp; omega), ax, aZ, Option.bind_some, qW]
   have hcond : ((((K == 1) && !(c.Vars.any fun e => e.Name == s)) || ((K == 3) && !(c.Ports.any fun e => e.Name == s))) || (((K == 4) || (K == 5)) && !(c.Timers.any fun e => e.Name == s))) = !there (prR c names states) K s := by
    unfold there
    by_cases e1 : K = 1
    ·subst e1; simp [prR]
    by_cases e3 : K = 3
    ·subst e3; simp [prR]
    have b1 : (K == 1) = false := by simp [e1]
    have b3 : (K == 3) = false := by simp [e3]
    by_cases e4 : K = 4
    ·subst e4; simp [prR]
    by_cases e5 : K = 5
    ·subst e5; simp [prR]
    have b4 : (K == 4) = false := by simp [e4]
    have b5 : (K == 5) = false := by simp [e5]
    simp [b1, b3, b4, b5, e1, e3, e4, e5]
   rw [hcond]
   unfold mB
   simp only [acF]
   rcases Bool.eq_false_or_eq_true (there (prR c names states) K s) with hth | hth
   rotate_left
   ·simp [hth, chk, orF, kf]
   ·simp only [hth, Bool.not_true, Bool.false_eq_true, if_false, bd]
    rw [aG (ao (aK _ _ (by decide)) (ao (mU _ _) (ao (dG _ _) (dG _ _))))]
    simp only [ax, aZ, Option.bind_some]
    have hr : ((K == 7) && (decide (nn < 1) || decide (nn > 16))) = !((K != 7) || (decide (nn ≥ 1) && decide (nn ≤ 16))) := by
     by_cases h7 : K = 7
     ·subst h7
      by_cases g1 : nn < 1
      ·have : ¬ nn ≥ 1 := by omega
       simp [g1, this]
      ·have g1' : nn ≥ 1 := by omega
       by_cases g2 : nn > 16
       ·have : ¬ nn ≤ 16 := by omega
        simp [g1, g2, g1', this]
       ·have : nn ≤ 16 := by omega
        simp [g1, g2, g1', this]
     ·have b7 : (K == 7) = false := by simp [h7]
      have b7' : (K != 7) = true := by simp [h7]
      simp [b7, b7']
    rw [hr]
    rcases Bool.eq_false_or_eq_true ((K != 7) || (decide (nn ≥ 1) && decide (nn ≤ 16))) with hrg | hrg
    rotate_left
    ·simp only [hrg, Bool.not_false, if_true, aT]
     simp [orF, kf]
    ·simp only [hrg, Bool.not_true, Bool.false_eq_true, if_false, bd]
     rw [aG (ao (mU _ _) (ao (dG _ _) (dG _ _)))]
     rw [Gv c names states tr hN ⟨v1, v2, v3⟩ hs _ _ (by omega), bc]
     have c15 : ∀ (f : Flt) (k0 k1 : Option R) x1 x2 x3 x4 x5 x6 x7 x8 x9 x10 x11 x12 x13 x14 x15, fj (aV N d) N x1 x2 x3 x4 x5 x6 x7 x8 x9 x10 x11 x12 x13 x14 x15 f.1 f.2 k0 k1 = if f.1 = 0 then k1 else k0 := by
      intro f k0 k1 x1 x2 x3 x4 x5 x6 x7 x8 x9 x10 x11 x12 x13 x14 x15
      unfold fj
      by_cases hz : f.1 = 0
      ·rw [if_neg (by simp [hz]), if_pos hz]
      ·rw [if_pos (by simp [hz]), if_neg hz]
     have c13 : ∀ (f : Flt) (k1 : Option R) x1 x2 a1 a2 a3 a4 a5 a6 a7, fl (aV N d) N x1 x2 c.Name c.Steps c.Fuel c.Vars c.Ports c.Timers c.States c.At tr names states 0 0 a1 a2 a3 a4 a5 a6 EE a7 f.1 f.2 (fun y z => k y z) k1 = if (oZ f (kA (prR c names states) EE)).1 = 0 then k1 else kf k (oZ f (kA (prR c names states) EE)) := by
      intro f k1 x1 x2 a1 a2 a3 a4 a5 a6 a7
      unfold fl oZ
      by_cases hz : f.1 = 0
      ·rw [if_pos (by simp [hz]), if_pos hz, ih _ _ _ (by omega) (by omega), bc, c15]; rfl
      ·rw [if_neg (by simp [hz]), if_neg hz, if_neg hz, c15, if_neg hz]; rfl
     rw [ur (mU _ _) (ao (dG _ _) (dG _ _)), ur (dG _ _) (dG _ _)]
     by_cases hz : (uw (prR c names states) X).1 = 0
     ·rw [if_pos (by simp [hz]), ih _ _ _ (by omega) (by omega), bc, c13]
      simp only [oZ, hz, if_true]
      rfl
     ·rw [if_neg (by simp [hz]), c13]
      simp only [oZ, hz, if_false]
      try rfl
  ·simp only [ew, hO, h]
   simp
theorem Ed (c : Chart) (names states : List (List UInt8)) (tr : Int) (hN : big ≤ N) (hc : rF c) (hs : states.length < big) (l : List Act) (k : Int → Int → Option R) (hl : eB l < 100000000) :
  r12_looking_acts N l c.Name c.Steps c.Fuel c.Vars c.Ports c.Timers c.States c.At tr names states k = kf k (kA (prR c names states) l) := by
 have hb : big = 1000000000 := rfl
 unfold r12_looking_acts
 exact Nb c names states tr hN hc hs N R l k (by omega) hl
theorem RD (c : Chart) (names states : List (List UInt8)) (tr : Int) (hN : big ≤ N) (hc : rF c) (hs : states.length < big) (hn : names.length < big) (t : Trans) (k : Int → Int → Int → Option R) (ht : szT t < 100000000) (h0 : 0 ≤ tr) (h1 : tr ≤ 96) :
  ∃ tr', mZ N t.Event t.Guard t.Target t.Acts t.At c.Name c.Steps c.Fuel c.Vars c.Ports c.Timers c.States c.At tr names states k = k (trF (prR c names states) (tr + 1) t).1 (trF (prR c names states) (tr + 1) t).2 tr' ∧ ((trF (prR c names states) (tr + 1) t).1 = 0 → tr' = tr + 1 ∧ tr + 1 ≤ 96) := by
 have hb : big = 1000000000 := rfl
 have p1 := dH t.Guard; have p2 := bg t.Acts
 unfold szT at ht
 unfold mZ trF
 by_cases h96 : tr = 96
 ·subst h96
  refine ⟨96, ?_, fun h => ?_⟩
  ·simp [chk, orF]
  ·simp [chk, orF] at h
 ·have hq : ¬ (tr == 96) = true := by simpa using h96
  have hd : decide (tr + 1 ≤ 96) = true := by simp; omega
  rw [if_neg hq, hd]
  simp only [eh _ _ _ hN hn, ax, Option.bind_some, wr (tr + 1) (by omega) (by omega)]
  refine ⟨tr + 1, ?_, fun _ => ⟨rfl, by omega⟩⟩
  have hz1 : ∀ f : Flt, Nf f → orF (chk true 15 t.At) f = f := fun f hf => aG hf
  rw [hz1 _ (ao (aK _ _ (by decide)) (ao (mU _ _) (dG _ _)))]
  have hcnd : (!(t.Target == []) && !(names.any fun e => e == t.Target)) = !((t.Target == []) || (prR c names states).g t.Target) := by
   simp [prR]
  rw [hcnd]
  rcases Bool.eq_false_or_eq_true ((t.Target == []) || (prR c names states).g t.Target) with hg | hg
  rotate_left
  ·simp only [hg, Bool.not_false, if_true]
   simp [chk, orF]
  ·simp only [hg, Bool.not_true, Bool.false_eq_true, if_false, bd]
   rw [aG (ao (mU _ _) (dG _ _)), ur (mU _ _) (dG _ _), Gv c names states _ hN hc hs _ _ (by omega), bc]
   by_cases hz : (uw (prR c names states) t.Guard).1 = 0
   ·rw [if_pos (by simp [hz]), Ed c names states _ hN hc hs _ _ (by omega), bc]
    simp only [oZ, hz, if_true]
   ·rw [if_neg (by simp [hz])]
    simp only [oZ, hz, if_false]
end
def stN (l : List State) : List (List UInt8) := (l.filter fun s => !isH s).map (·.Name)
theorem mG {s : State} (h : okS s) : (1 ≤ s.Kind ∧ s.Kind ≤ 4) ∧ (3 ≤ s.Kind → s.Entry = [] ∧ s.Exit = [] ∧ s.Trans = [] ∧ s.Kids = []) ∧ mu s.Kids := by
 cases s; simpa [okS] using h
theorem Ee {s : State} (h : okS s) : isS s = !isH s := by
 obtain ⟨⟨h1, h2⟩, _⟩ := mG h
 unfold isS isH
 have : s.Kind = 1 ∨ s.Kind = 2 ∨ s.Kind = 3 ∨ s.Kind = 4 := by omega
 rcases this with h | h | h | h <;> simp [h]
theorem uA : ∀ {l : List State}, mu l → ∀ s ∈ l, okS s
 | x :: r, h, s, hs => by
  simp only [mu] at h
  rcases List.mem_cons.1 hs with rfl | hs
  ·exact h.1
  ·exact uA h.2 s hs
theorem Mf {l : List State} (h : mu l) : l.any isS = l.any fun s => !isH s := by
 induction l with
 | nil => rfl
 | cons s r ih =>
  simp only [mu] at h
  simp only [List.any_cons, Ee h.1, ih h.2]
theorem Mg : ∀ l : List State, mu l → ∀ s ∈ flL l, okS s := by
 intro l
 refine State.rec_1 (motive_1 := fun s => okS s → ∀ x ∈ flS s, okS x) (motive_2 := fun l => mu l → ∀ s ∈ flL l, okS s) ?_ ?_ ?_ l
 ·intro k n en ex tr kids a ih h x hx
  rw [bD] at hx
  rcases List.mem_cons.1 hx with rfl | hx
  ·exact h
  ·exact ih (mG h).2.2 x hx
 ·intro _ s hs; simp [flL] at hs
 ·intro s r h1 h2 h x hx
  simp only [mu] at h
  simp only [flL, List.mem_append] at hx
  rcases hx with hx | hx
  ·exact h1 h.1 x hx
  ·exact h2 h.2 x hx
theorem DI (a b : List State) : stN (a ++ b) = stN a ++ stN b := by simp [stN]
theorem OX {top : Bool} {s : State} (h : okS s) : ((top && !isS s) || (s.Kind == 2 && !s.Kids.any isS) || (s.Kind == 1 && decide (((s.Kids.length : Nat) : Int) > 0) && !s.Kids.any isS)) = BW top s := by
 obtain ⟨⟨h1, h2⟩, h3, h4⟩ := mG h
 unfold BW
 rw [Ee h, Mf h4, Bool.not_not]
 have : s.Kind = 1 ∨ s.Kind = 2 ∨ 3 ≤ s.Kind := by omega
 rcases this with e | e | e
 ·simp [e]
 ·have b1 : (s.Kind == 1) = false := by simp [e]
  have b2 : (s.Kind == 2) = true := by simp [e]
  rw [b1, b2]
  generalize (s.Kids.any fun e => !isH e) = q
  generalize decide (((s.Kids.length : Nat) : Int) > 0) = w
  generalize (top && isH s) = z
  cases q <;> cases w <;> cases z <;> rfl
 ·have hk := (h3 e).2.2.2
  have e1 : ¬ s.Kind = 1 := by omega
  have e2 : ¬ s.Kind = 2 := by omega
  simp [e1, e2, hk]
theorem Mh {top : Bool} {out : List State} {s : State} (h : out.length = 63) : iq top out s = (15, s.At) := by
 unfold iq
 have : decide (((out.length : Nat) : Int) < 63) = false := by simp; omega
 rw [this, aT]; simp [orF]
theorem OY {top : Bool} {out : List State} {s : State} (h : out.length < 63) (h1 : (out.any fun e => e.Name == s.Name) = true) : iq top out s = (8, s.At) := by
 unfold iq
 have : decide (((out.length : Nat) : Int) < 63) = true := by simp; omega
 rw [this, h1, bd, Bool.not_true, aT]; simp [orF]
theorem Mi {top : Bool} {out : List State} {s : State} (h : out.length < 63) (h1 : (out.any fun e => e.Name == s.Name) = false) (h2 : BW top s = true) : iq top out s = (17, s.At) := by
 unfold iq
 have : decide (((out.length : Nat) : Int) < 63) = true := by simp; omega
 rw [this, h1, h2, bd, Bool.not_true, aT, Bool.not_false, bd]; simp [orF]
theorem OZ {top : Bool} {out : List State} {s : State} (h : out.length < 63) (h1 : (out.any fun e => e.Name == s.Name) = false) (h2 : BW top s = false) : iq top out s = (0, 0) := by
 unfold iq
 have : decide (((out.length : Nat) : Int) < 63) = true := by simp; omega
 rw [this, h1, h2, bd, Bool.not_false, bd, bd]; simp [orF]
theorem Ef (l : List State) (s : List UInt8) : (l.map (·.Name)).any (fun e => e == s) = l.any fun e => e.Name == s := by
 rw [List.any_map]; rfl
theorem rI : ∀ (l : List State) (e : State), e ∈ l → szS e ≤ aN l
 | x :: r, e, h => by
  have := bH r; have := ta x
  simp only [aN]
  rcases List.mem_cons.1 h with rfl | h
  ·omega
  ·have := rI r e h; omega
section
variable {R : Type} {N : Nat}
theorem sL (c : Chart) (tr : Int) (hN : big ≤ N) (F : aA) (o1 o2 : List (List UInt8)) (top : Bool) (l : List State) (k : Int → Int → List (List UInt8) → List (List UInt8) → Option R) (hl : aN l < 20000) (hok : mu l)
  (hF : ∀ (e : State), e ∈ l → ∀ (out : List State) (k : Int → Int → List (List UInt8) → List (List UInt8) → Option R), out.length ≤ 63 → ∃ n' s', F.r12_looking_shapes_2 R e.Kids false c.Name c.Steps c.Fuel c.Vars c.Ports c.Timers c.States c.At tr (out.map (·.Name)) (stN out) k = k (trL false out e.Kids).1 (trL false out e.Kids).2 n' s' ∧ ((trL false out e.Kids).1 = 0 → n' = (out ++ flL e.Kids).map (·.Name) ∧ s' = stN (out ++ flL e.Kids) ∧ (out ++ flL e.Kids).length ≤ 63)) : ∀ (rest pre : List State) (n : Nat) (out : List State), l = pre ++ rest → rest.length < n → out.length ≤ 63 →
  ∃ n' s', bC F N l top c.Name c.Steps c.Fuel c.Vars c.Ports c.Timers c.States c.At tr o1 o2 0 0 (fun y z => k 0 0 y z) (fun y z v w => k v w y z) n pre.length (out.map (·.Name)) (stN out) = k (trL top out rest).1 (trL top out rest).2 n' s' ∧ ((trL top out rest).1 = 0 → n' = (out ++ flL rest).map (·.Name) ∧ s' = stN (out ++ flL rest) ∧ (out ++ flL rest).length ≤ 63) := by
 have hb : big = 1000000000 := rfl
 intro rest
 induction rest with
 | nil =>
  intro pre n out h hn ho
  obtain ⟨n, rfl⟩ : ∃ m, n = m + 1 := ⟨n - 1, by omega⟩
  have : l = pre := by simpa using h
  subst this
  refine ⟨out.map (·.Name), stN out, ?_, fun _ => by simpa [flL] using ho⟩
  simp only [bC, eF, trL]
  simp
 | cons e r ih =>
  intro pre n out h hn ho
  obtain ⟨n, rfl⟩ : ∃ m, n = m + 1 := ⟨n - 1, by omega⟩
  have hlen : l.length = pre.length + (r.length + 1) := by rw [h]; simp
  have hll := db l
  have he : e ∈ l := by rw [h]; simp
  have hes := rI l e he
  have hk := ka e; have hkl := db e.Kids
  have hoe := uA hok e he
  have hok4 := (mG hoe).2.2
  have hat : at? l pre.length = some e := bf (by omega) (by rw [h]; simp)
  have hd : decide (((pre.length : Nat) : Int) < ((l.length : Nat) : Int)) = true := by simp; omega
  have hr : IntKind.wrap .i64 (((pre.length : Nat) : Int) + 1) = (((pre ++ [e]).length : Nat) : Int) := by rw [wr _ (by omega) (by omega)]; simp
  have htr : trL top out (e :: r) = orF (iq top out e) (orF (trL false (out ++ [e]) e.Kids) (trL top (out ++ flS e) r)) := by
   simp only [trL, zC, aO]
  rw [htr]
  simp only [bC, eF, hd, hat, if_true, Option.bind_some]
  have hml : (out.map (·.Name)).length = out.length := by simp
  have hsl : (stN out).length ≤ out.length := by unfold stN; rw [List.length_map]; exact List.length_filter_le _ _
  by_cases h63 : out.length = 63
  ·have : ((((out.map (·.Name)).length : Nat) : Int) == 63) = true := by rw [hml, h63]; rfl
   rw [if_pos this, Mh h63, aL _ (by simp)]
   exact ⟨_, _, rfl, fun h => absurd h (by simp)⟩
  have h63' : ¬ ((((out.map (·.Name)).length : Nat) : Int) == 63) = true := by rw [hml]; simp; omega
  have hlt : out.length < 63 := by omega
  rw [if_neg h63', eh _ _ _ hN (by omega), Ef]
  rcases Bool.eq_false_or_eq_true (out.any fun x => x.Name == e.Name) with h8 | h8
  ·rw [if_pos h8, OY hlt h8, aL _ (by simp)]
   exact ⟨_, _, rfl, fun h => absurd h (by simp)⟩
  rw [if_neg (by simp [h8])]
  simp only [pf, zA _ _ hN (show e.Kids.length < big by omega), ax, aZ, Option.bind_some, OX hoe]
  rcases Bool.eq_false_or_eq_true (BW top e) with h17 | h17
  ·rw [if_pos h17, Mi hlt h8 h17, aL _ (by simp)]
   exact ⟨_, _, rfl, fun h => absurd h (by simp)⟩
  rw [if_neg (by simp [h17]), OZ hlt h8 h17, aG (ao (tQ _ _ _) (tQ _ _ _))]
  unfold iP
  rw [if_pos (by simp [ak]; omega), pf, Ee hoe]
  have fin : ∀ (x1 : List (List UInt8)) (x2 : List (List UInt8)), x2 = stN (out ++ [e]) → x1 = (out ++ [e]).map (·.Name) → ∃ n' s', df F N l top pre.length c.Name c.Steps c.Fuel c.Vars c.Ports c.Timers c.States c.At tr o1 o2 x1 x2 0 0 e.Kind e.Name e.Entry e.Exit e.Trans e.Kids e.At (fun y z v w => k v w y z) (fun y z => bC F N l top c.Name c.Steps c.Fuel c.Vars c.Ports c.Timers c.States c.At tr o1 o2 0 0 (fun y z => k 0 0 y z) (fun y z v w => k v w y z) n (IntKind.wrap .i64 (((pre.length : Nat) : Int) + 1)) y z) = k (orF (trL false (out ++ [e]) e.Kids) (trL top (out ++ flS e) r)).1 (orF (trL false (out ++ [e]) e.Kids) (trL top (out ++ flS e) r)).2 n' s' ∧ ((orF (trL false (out ++ [e]) e.Kids) (trL top (out ++ flS e) r)).1 = 0 → n' = (out ++ flL (e :: r)).map (·.Name) ∧ s' = stN (out ++ flL (e :: r)) ∧ (out ++ flL (e :: r)).length ≤ 63) := by
   intro x1 x2 hx2 hx1
   subst hx1; subst hx2
   unfold df
   obtain ⟨n1, s1, g1, g2⟩ := hF e he (out ++ [e]) (fun (r81 : Int) (r82 : Int) (r83 : List (List UInt8)) (r84 : List (List UInt8)) => if (r81 != 0) = true then k r81 r82 r83 r84 else bC F N l top c.Name c.Steps c.Fuel c.Vars c.Ports c.Timers c.States c.At tr o1 o2 0 0 (fun y z => k 0 0 y z) (fun y z v w => k v w y z) n (IntKind.wrap .i64 (((pre.length : Nat) : Int) + 1)) r83 r84) (by simp; omega)
   rw [g1]
   by_cases hz : (trL false (out ++ [e]) e.Kids).1 = 0
   ·obtain ⟨rfl, rfl, g5⟩ := g2 hz
    rw [if_neg (by simp [hz]), hr]
    have hoo : out ++ [e] ++ flL e.Kids = out ++ flS e := by simp [bD]
    rw [hoo] at g5 ⊢
    obtain ⟨n2, s2, g3, g4⟩ := ih (pre ++ [e]) n (out ++ flS e) (by rw [h]; simp) (by simp at hn; omega) g5
    rw [(tQ e.Kids false (out ++ [e])) hz, aG (tQ _ _ _)]
    refine ⟨n2, s2, g3, fun hz2 => ?_⟩
    have := g4 hz2
    simpa [flL] using this
   ·rw [if_pos (by simp [hz]), aL _ hz]
    exact ⟨_, _, rfl, fun h => absurd h hz⟩
  rcases Bool.eq_false_or_eq_true (isH e) with hh | hh
  ·rw [if_neg (by simp [hh])]
   exact fin _ _ (by rw [DI]; simp [stN, hh]) (by simp)
  ·rw [if_pos (by simp [hh]), if_pos (by simp [ak]; omega)]
   exact fin _ _ (by rw [DI]; simp [stN, hh]) (by simp)
theorem Iu (c : Chart) (tr : Int) (hN : big ≤ N) : ∀ (d : Nat) (R : Type) (top : Bool) (l : List State) (out : List State) (k : Int → Int → List (List UInt8) → List (List UInt8) → Option R), aN l < d → aN l < 20000 → mu l → out.length ≤ 63 →
  ∃ n' s', (br N d).r12_looking_shapes_2 R l top c.Name c.Steps c.Fuel c.Vars c.Ports c.Timers c.States c.At tr (out.map (·.Name)) (stN out) k = k (trL top out l).1 (trL top out l).2 n' s' ∧ ((trL top out l).1 = 0 → n' = (out ++ flL l).map (·.Name) ∧ s' = stN (out ++ flL l) ∧ (out ++ flL l).length ≤ 63) := by
 have hb : big = 1000000000 := rfl
 intro d
 induction d with
 | zero => intro R top l out k h; have := bH l; omega
 | succ d ih =>
  intro R top l out k hd hs hok ho
  rw [uV]
  unfold ea
  have hll := db l
  refine sL c tr hN _ _ _ top l _ hs hok (fun e he out k ho => ?_) l [] N out rfl (by omega) ho
  have := rI l e he
  have := ka e
  exact ih R false e.Kids out k (by omega) (by omega) (mG (uA hok e he)).2.2 ho
theorem Kt (c : Chart) (tr : Int) (hN : big ≤ N) (top : Bool) (l : List State) (out : List State) (k : Int → Int → List (List UInt8) → List (List UInt8) → Option R) (h1 : aN l < 20000) (h2 : mu l) (h3 : out.length ≤ 63) :
  ∃ n' s', r12_looking_shapes_2 N l top c.Name c.Steps c.Fuel c.Vars c.Ports c.Timers c.States c.At tr (out.map (·.Name)) (stN out) k = k (trL top out l).1 (trL top out l).2 n' s' ∧ ((trL top out l).1 = 0 → n' = (out ++ flL l).map (·.Name) ∧ s' = stN (out ++ flL l) ∧ (out ++ flL l).length ≤ 63) := by
 have hb : big = 1000000000 := rfl
 unfold r12_looking_shapes_2
 exact Iu c tr hN N R top l out k (by omega) h1 h2 h3
theorem uB (c : Chart) (tr : Int) (hN : big ≤ N) (top : Bool) (l : List State) (k : Int → Int → List (List UInt8) → List (List UInt8) → Option R) (hl : aN l < 20000) (hok : mu l)
  : ∀ (rest pre : List State) (n : Nat) (out : List State), l = pre ++ rest → rest.length < n → out.length ≤ 63 →
  ∃ n' s', bN N l top c.Name c.Steps c.Fuel c.Vars c.Ports c.Timers c.States c.At tr 0 0 (fun y z => k 0 0 y z) (fun y z v w => k v w y z) n pre.length (out.map (·.Name)) (stN out) = k (trL top out rest).1 (trL top out rest).2 n' s' ∧ ((trL top out rest).1 = 0 → n' = (out ++ flL rest).map (·.Name) ∧ s' = stN (out ++ flL rest) ∧ (out ++ flL rest).length ≤ 63) := by
 have hb : big = 1000000000 := rfl
 intro rest
 induction rest with
 | nil =>
  intro pre n out h hn ho
  obtain ⟨n, rfl⟩ : ∃ m, n = m + 1 := ⟨n - 1, by omega⟩
  have : l = pre := by simpa using h
  subst this
  refine ⟨out.map (·.Name), stN out, ?_, fun _ => by simpa [flL] using ho⟩
  simp only [bN, fN, trL]
  simp
 | cons e r ih =>
  intro pre n out h hn ho
  obtain ⟨n, rfl⟩ : ∃ m, n = m + 1 := ⟨n - 1, by omega⟩
  have hlen : l.length = pre.length + (r.length + 1) := by rw [h]; simp
  have hll := db l
  have he : e ∈ l := by rw [h]; simp
  have hes := rI l e he
  have hk := ka e; have hkl := db e.Kids
  have hoe := uA hok e he
  have hok4 := (mG hoe).2.2
  have hat : at? l pre.length = some e := bf (by omega) (by rw [h]; simp)
  have hd : decide (((pre.length : Nat) : Int) < ((l.length : Nat) : Int)) = true := by simp; omega
  have hr : IntKind.wrap .i64 (((pre.length : Nat) : Int) + 1) = (((pre ++ [e]).length : Nat) : Int) := by rw [wr _ (by omega) (by omega)]; simp
  have htr : trL top out (e :: r) = orF (iq top out e) (orF (trL false (out ++ [e]) e.Kids) (trL top (out ++ flS e) r)) := by
   simp only [trL, zC, aO]
  rw [htr]
  simp only [bN, fN, hd, hat, if_true, Option.bind_some]
  have hml : (out.map (·.Name)).length = out.length := by simp
  have hsl : (stN out).length ≤ out.length := by unfold stN; rw [List.length_map]; exact List.length_filter_le _ _
  by_cases h63 : out.length = 63
  ·have : ((((out.map (·.Name)).length : Nat) : Int) == 63) = true := by rw [hml, h63]; rfl
   rw [if_pos this, Mh h63, aL _ (by simp)]
   exact ⟨_, _, rfl, fun h => absurd h (by simp)⟩
  have h63' : ¬ ((((out.map (·.Name)).length : Nat) : Int) == 63) = true := by rw [hml]; simp; omega
  have hlt : out.length < 63 := by omega
  rw [if_neg h63', eh _ _ _ hN (by omega), Ef]
  rcases Bool.eq_false_or_eq_true (out.any fun x => x.Name == e.Name) with h8 | h8
  ·rw [if_pos h8, OY hlt h8, aL _ (by simp)]
   exact ⟨_, _, rfl, fun h => absurd h (by simp)⟩
  rw [if_neg (by simp [h8])]
  simp only [pf, zA _ _ hN (show e.Kids.length < big by omega), ax, aZ, Option.bind_some, OX hoe]
  rcases Bool.eq_false_or_eq_true (BW top e) with h17 | h17
  ·rw [if_pos h17, Mi hlt h8 h17, aL _ (by simp)]
   exact ⟨_, _, rfl, fun h => absurd h (by simp)⟩
  rw [if_neg (by simp [h17]), OZ hlt h8 h17, aG (ao (tQ _ _ _) (tQ _ _ _))]
  unfold jP
  rw [if_pos (by simp [ak]; omega), pf, Ee hoe]
  have fin : ∀ (x1 : List (List UInt8)) (x2 : List (List UInt8)), x2 = stN (out ++ [e]) → x1 = (out ++ [e]).map (·.Name) → ∃ n' s', eb N l top pre.length c.Name c.Steps c.Fuel c.Vars c.Ports c.Timers c.States c.At tr x1 x2 0 0 e.Kind e.Name e.Entry e.Exit e.Trans e.Kids e.At (fun y z v w => k v w y z) (fun y z => bN N l top c.Name c.Steps c.Fuel c.Vars c.Ports c.Timers c.States c.At tr 0 0 (fun y z => k 0 0 y z) (fun y z v w => k v w y z) n (IntKind.wrap .i64 (((pre.length : Nat) : Int) + 1)) y z) = k (orF (trL false (out ++ [e]) e.Kids) (trL top (out ++ flS e) r)).1 (orF (trL false (out ++ [e]) e.Kids) (trL top (out ++ flS e) r)).2 n' s' ∧ ((orF (trL false (out ++ [e]) e.Kids) (trL top (out ++ flS e) r)).1 = 0 → n' = (out ++ flL (e :: r)).map (·.Name) ∧ s' = stN (out ++ flL (e :: r)) ∧ (out ++ flL (e :: r)).length ≤ 63) := by
   intro x1 x2 hx2 hx1
   subst hx1; subst hx2
   unfold eb
   obtain ⟨n1, s1, g1, g2⟩ := Kt c tr hN false e.Kids (out ++ [e]) (fun (r81 : Int) (r82 : Int) (r83 : List (List UInt8)) (r84 : List (List UInt8)) => if (r81 != 0) = true then k r81 r82 r83 r84 else bN N l top c.Name c.Steps c.Fuel c.Vars c.Ports c.Timers c.States c.At tr 0 0 (fun y z => k 0 0 y z) (fun y z v w => k v w y z) n (IntKind.wrap .i64 (((pre.length : Nat) : Int) + 1)) r83 r84) (by omega) hok4 (by simp; omega)
   rw [g1]
   by_cases hz : (trL false (out ++ [e]) e.Kids).1 = 0
   ·obtain ⟨rfl, rfl, g5⟩ := g2 hz
    rw [if_neg (by simp [hz]), hr]
    have hoo : out ++ [e] ++ flL e.Kids = out ++ flS e := by simp [bD]
    rw [hoo] at g5 ⊢
    obtain ⟨n2, s2, g3, g4⟩ := ih (pre ++ [e]) n (out ++ flS e) (by rw [h]; simp) (by simp at hn; omega) g5
    rw [(tQ e.Kids false (out ++ [e])) hz, aG (tQ _ _ _)]
    refine ⟨n2, s2, g3, fun hz2 => ?_⟩
    have := g4 hz2
    simpa [flL] using this
   ·rw [if_pos (by simp [hz]), aL _ hz]
    exact ⟨_, _, rfl, fun h => absurd h hz⟩
  rcases Bool.eq_false_or_eq_true (isH e) with hh | hh
  ·rw [if_neg (by simp [hh])]
   exact fin _ _ (by rw [DI]; simp [stN, hh]) (by simp)
  ·rw [if_pos (by simp [hh]), if_pos (by simp [ak]; omega)]
   exact fin _ _ (by rw [DI]; simp [stN, hh]) (by simp)
theorem Nc (c : Chart) (tr : Int) (hN : big ≤ N) (top : Bool) (l : List State) (k : Int → Int → List (List UInt8) → List (List UInt8) → Option R) (h1 : aN l < 20000) (h2 : mu l) :
  ∃ n' s', jQ N l top c.Name c.Steps c.Fuel c.Vars c.Ports c.Timers c.States c.At tr k = k (trL top [] l).1 (trL top [] l).2 n' s' ∧ ((trL top [] l).1 = 0 → n' = (flL l).map (·.Name) ∧ s' = stN (flL l) ∧ (flL l).length ≤ 63) := by
 have hb : big = 1000000000 := rfl
 have hll := db l
 unfold jQ
 obtain ⟨n', s', g1, g2⟩ := uB c tr hN top l k h1 h2 l [] N [] rfl (by omega) (by simp)
 exact ⟨n', s', g1, fun h => by simpa using g2 h⟩
end
def cnt (l : List State) : Int := (l.map fun s => (s.Trans.length : Int)).sum
theorem Mj : ∀ l, 0 ≤ cnt l
 | [] => by simp [cnt]
 | s :: r => by have := Mj r; unfold cnt at *; simp only [List.map_cons, List.sum_cons]; omega
def elF (P : Pr) (n : Int) (s : State) : Flt := orF (kA P s.Entry) (orF (kA P s.Exit) (yS P n s.Trans))
theorem Ti (P : Pr) (n : Int) (s : State) : Nf (elF P n s) := ao (dG _ _) (ao (dG _ _) (yC _ _ _))
theorem Eg (P : Pr) (n : Int) (s : State) (r : List State) (h : okS s) : inF P n (s :: r) = orF (elF P n s) (inF P (n + s.Trans.length) r) := by
 unfold elF
 simp only [inF]
 split
 ·rename_i hh
  have h3 : 3 ≤ s.Kind := by
   unfold isH at hh
   simp only [Bool.or_eq_true, beq_iff_eq] at hh
   omega
  obtain ⟨e1, e2, e3, e4⟩ := (mG h).2.1 h3
  rw [e1, e2, e3]
  simp only [kA, yS, mF, List.length_nil, Int.natCast_zero, Int.add_zero]
  rw [aG (tP _ _ _)]
 ·simp only [aO]
theorem Mk (P : Pr) : ∀ (a b : List State) (n : Int), (∀ s ∈ a, okS s) → inF P n (a ++ b) = orF (inF P n a) (inF P (n + cnt a) b)
 | [], b, n, _ => by simp only [List.nil_append, inF, cnt, List.map_nil, List.sum_nil, Int.add_zero]; rw [aG (tP _ _ _)]
 | s :: r, b, n, h => by
  rw [List.cons_append, Eg P n s _ (h s (List.mem_cons_self ..)), Eg P n s r (h s (List.mem_cons_self ..)), Mk P r b _ fun x hx => h x (List.mem_cons_of_mem _ hx), aO]
  have : n + ↑s.Trans.length + cnt r = n + cnt (s :: r) := by unfold cnt; simp only [List.map_cons, List.sum_cons]; omega
  rw [this]
section
variable {R : Type} {N : Nat}
theorem Ku (c : Chart) (names states : List (List UInt8)) (hN : big ≤ N) (hc : rF c) (hs : states.length < big) (hn : names.length < big) : ∀ (d : Nat) (R : Type) (l : List State) (n : Int) (k : Int → Int → Int → Option R), aN l < d → aN l < 20000 → mu l → 0 ≤ n → n ≤ 96 →
  ∃ n', (al N d).r12_looking_inner R l c.Name c.Steps c.Fuel c.Vars c.Ports c.Timers c.States c.At n names states k = k (inF (prR c names states) n (flL l)).1 (inF (prR c names states) n (flL l)).2 n' ∧ ((inF (prR c names states) n (flL l)).1 = 0 → n' = n + cnt (flL l) ∧ n' ≤ 96) := by
 have hb : big = 1000000000 := rfl
 intro d
 induction d with
 | zero => intro R l n k h; have := bH l; omega
 | succ d ih =>
  intro R l n0 k hd hsz hok hn0 hn1
  rw [yg]
  unfold gd
  have hll := db l
  have key : ∀ (rest pre : List State) (m : Nat) (n : Int), l = pre ++ rest → rest.length < m → 0 ≤ n → n ≤ 96 →
    ∃ n', bt (al N d) N l c.Name c.Steps c.Fuel c.Vars c.Ports c.Timers c.States c.At names states 0 0 (fun y => k 0 0 y) (fun y z w => k z w y) m pre.length n = k (inF (prR c names states) n (flL rest)).1 (inF (prR c names states) n (flL rest)).2 n' ∧ ((inF (prR c names states) n (flL rest)).1 = 0 → n' = n + cnt (flL rest) ∧ n' ≤ 96) := by
   intro rest
   induction rest with
   | nil =>
    intro pre m n h hm h0 h1
    obtain ⟨m, rfl⟩ : ∃ q, m = q + 1 := ⟨m - 1, by omega⟩
    have : l = pre := by simpa using h
    subst this
    refine ⟨n, ?_, fun _ => by simp [flL, cnt]; omega⟩
    simp only [bt, gw, flL, inF]
    simp
   | cons e r ihr =>
    intro pre m n h hm h0 h1
    obtain ⟨m, rfl⟩ : ∃ q, m = q + 1 := ⟨m - 1, by omega⟩
    have hlen : l.length = pre.length + (r.length + 1) := by rw [h]; simp
    have he : e ∈ l := by rw [h]; simp
    have hes := rI l e he
    have hk := ka e
    have hoe := uA hok e he
    have hok4 := (mG hoe).2.2
    have hfk := Mg e.Kids hok4
    obtain ⟨q1, q2, q3⟩ := Gs e
    have q4 := Au e.Trans
    have hat : at? l pre.length = some e := bf (by omega) (by rw [h]; simp)
    have hdc : decide (((pre.length : Nat) : Int) < ((l.length : Nat) : Int)) = true := by simp; omega
    have hr : IntKind.wrap .i64 (((pre.length : Nat) : Int) + 1) = (((pre ++ [e]).length : Nat) : Int) := by rw [wr _ (by omega) (by omega)]; simp
    have hin : inF (prR c names states) n (flL (e :: r)) = orF (elF (prR c names states) n e) (orF (inF (prR c names states) (n + e.Trans.length) (flL e.Kids)) (inF (prR c names states) (n + e.Trans.length + cnt (flL e.Kids)) (flL r))) := by
     simp only [flL, bD, List.cons_append]
     rw [Eg _ _ _ _ hoe, Mk _ _ _ _ hfk]
    rw [hin]
    have hcnt : cnt (flL (e :: r)) = e.Trans.length + cnt (flL e.Kids) + cnt (flL r) := by
     simp only [flL, bD, List.cons_append]
     unfold cnt
     simp only [List.map_cons, List.sum_cons, List.map_append, List.sum_append]; omega
    rw [hcnt]
    simp only [bt, gw, hdc, hat, if_true, Option.bind_some]
    rw [Ed c names states n hN hc hs _ _ (by omega), bc]
    -- the walk over transitions
    have l2 : ∀ (kp : Int → Int → Int → Option R) x1 x2 x3 x4 x5 x6 x7 x8, ∀ (rest2 pre2 : List Trans) (q : Nat) (n : Int) (f : Flt), e.Trans = pre2 ++ rest2 → rest2.length + 1 < q → 0 ≤ n → n ≤ 96 → Nf f →
      ∃ n', bI (al N d) N l pre.length c.Name c.Steps c.Fuel c.Vars c.Ports c.Timers c.States c.At names states x1 x2 x3 x4 x5 x6 e.Trans x7 x8 kp q pre2.length n f.1 f.2 = kp n' (oZ f (yS (prR c names states) n rest2)).1 (oZ f (yS (prR c names states) n rest2)).2 ∧ ((oZ f (yS (prR c names states) n rest2)).1 = 0 → n' = n + rest2.length ∧ n' ≤ 96) := by
     intro kp x1 x2 x3 x4 x5 x6 x7 x8 rest2
     induction rest2 with
     | nil =>
      intro pre2 q n f h' hq h0 h1 hf
      obtain ⟨q, rfl⟩ : ∃ w, q = w + 1 := ⟨q - 1, by omega⟩
      have hp2 : e.Trans = pre2 := by simpa using h'
      refine ⟨n, ?_, fun _ => by simp; omega⟩
      simp only [bI, cL, ax, Option.bind_some, yS]
      have : decide (((pre2.length : Nat) : Int) < ((e.Trans.length : Nat) : Int)) = false := by rw [hp2]; simp
      rw [this, Bool.and_false]
      simp only [Bool.false_eq_true, if_false, oZ]
      split
      ·rename_i hz; rw [hf hz]
      ·rfl
     | cons t r2 ih2 =>
      intro pre2 q n f h' hq h0 h1 hf
      obtain ⟨q, rfl⟩ : ∃ w, q = w + 1 := ⟨q - 1, by omega⟩
      have hlen2 : e.Trans.length = pre2.length + (r2.length + 1) := by rw [h']; simp
      have ht : t ∈ e.Trans := by rw [h']; simp
      have hts := Ea ht
      by_cases hz : f.1 = 0
      ·have hat2 : at? e.Trans pre2.length = some t := bf (by omega) (by rw [h']; simp)
       have hdc2 : decide (((pre2.length : Nat) : Int) < ((e.Trans.length : Nat) : Int)) = true := by simp; omega
       have hr2 : IntKind.wrap .i64 (((pre2.length : Nat) : Int) + 1) = (((pre2 ++ [t]).length : Nat) : Int) := by rw [wr _ (by omega) (by omega)]; simp
       have hz' : (f.1 == 0) = true := by simp [hz]
       simp only [bI, cL, ax, Option.bind_some, hz', hdc2, hat2, Bool.and_self, if_true]
       obtain ⟨n1, g1, g2⟩ := RD c names states n hN hc hs hn t (fun r72 r73 r74 => bI (al N d) N l pre.length c.Name c.Steps c.Fuel c.Vars c.Ports c.Timers c.States c.At names states x1 x2 x3 x4 x5 x6 e.Trans x7 x8 kp q (IntKind.wrap .i64 (((pre2.length : Nat) : Int) + 1)) r74 r72 r73) (by omega) h0 h1
       rw [g1]
       have hth : oZ f (yS (prR c names states) n (t :: r2)) = orF (trF (prR c names states) (n + 1) t) (yS (prR c names states) (n + 1) r2) := by
        simp [oZ, hz, yS]
       rw [hth]
       by_cases hz2 : (trF (prR c names states) (n + 1) t).1 = 0
       ·obtain ⟨rfl, g3⟩ := g2 hz2
        obtain ⟨n2, g4, g5⟩ := ih2 (pre2 ++ [t]) q (n + 1) (trF (prR c names states) (n + 1) t) (by rw [h']; simp) (by simp at hq; omega) (by omega) g3 (Ks _ _ _)
        rw [ur (Ks _ _ _) (yC _ _ _)]
        refine ⟨n2, ?_, fun hz3 => ?_⟩
        ·rw [hr2]; exact g4
        ·have := g5 hz3
         simp only [List.length_cons]; omega
       ·obtain ⟨q, rfl⟩ : ∃ w, q = w + 1 := ⟨q - 1, by omega⟩
        refine ⟨n1, ?_, fun hz3 => absurd (cz.1 hz3).1 hz2⟩
        rw [aL _ hz2]
        have hne : ((trF (prR c names states) (n + 1) t).1 == 0) = false := by simp [hz2]
        simp only [bI, cL, ax, Option.bind_some, hne, Bool.false_and, Bool.false_eq_true, if_false]
      ·have hne : (f.1 == 0) = false := by simp [hz]
       refine ⟨n, ?_, fun h3 => ?_⟩
       ·simp only [bI, cL, ax, Option.bind_some, hne, Bool.false_and, Bool.false_eq_true, if_false, oZ, hz]
       ·simp [oZ, hz] at h3
    have c14 : ∀ (f : Flt) (a b : Option R) x1 x2 x3 x4 x5 x6 x7 x8 x9 x10 x11 x12 x13 x14 x15, bO (al N d) N x1 x2 x3 x4 x5 x6 x7 x8 x9 x10 x11 x12 x13 x14 x15 f.1 f.2 a b = if f.1 = 0 then b else a := by
     intro f a b x1 x2 x3 x4 x5 x6 x7 x8 x9 x10 x11 x12 x13 x14 x15
     unfold bO
     by_cases hz : f.1 = 0
     ·rw [if_neg (by simp [hz]), if_pos hz]
     ·rw [if_pos (by simp [hz]), if_neg hz]
    have c8 : ∀ (f : Flt), Nf f → orF f (yS (prR c names states) n e.Trans) = elF (prR c names states) n e → ∃ n', fm (al N d) N l pre.length c.Name c.Steps c.Fuel c.Vars c.Ports c.Timers c.States c.At n names states 0 0 e.Kind e.Name e.Entry e.Exit e.Trans e.Kids e.At f.1 f.2 (fun y z w => k z w y) (fun y => bt (al N d) N l c.Name c.Steps c.Fuel c.Vars c.Ports c.Timers c.States c.At names states 0 0 (fun y => k 0 0 y) (fun y z w => k z w y) m (IntKind.wrap .i64 (((pre.length : Nat) : Int) + 1)) y) =
      k (orF (elF (prR c names states) n e) (orF (inF (prR c names states) (n + e.Trans.length) (flL e.Kids)) (inF (prR c names states) (n + e.Trans.length + cnt (flL e.Kids)) (flL r)))).1 (orF (elF (prR c names states) n e) (orF (inF (prR c names states) (n + e.Trans.length) (flL e.Kids)) (inF (prR c names states) (n + e.Trans.length + cnt (flL e.Kids)) (flL r)))).2 n' ∧ ((orF (elF (prR c names states) n e) (orF (inF (prR c names states) (n + e.Trans.length) (flL e.Kids)) (inF (prR c names states) (n + e.Trans.length + cnt (flL e.Kids)) (flL r)))).1 = 0 → n' = n + (e.Trans.length + cnt (flL e.Kids) + cnt (flL r)) ∧ n' ≤ 96) := by
     intro f hf hfe
     unfold fm
     obtain ⟨n1, g1, g2⟩ := l2 (fun (y75 : Int) (y76 : Int) (y77 : Int) =>
 if (y76 == 0) = true then
  ((al N d).r12_looking_inner _ e.Kids c.Name c.Steps c.Fuel c.Vars c.Ports c.Timers c.States c.At y75 names states (fun (r78 : Int) (r79 : Int) (r80 : Int) =>
  bO (al N d) N l pre.length c.Name c.Steps c.Fuel c.Vars c.Ports c.Timers c.States c.At r80 names states 0 0 r78 r79 (k r78 r79 r80)
   (bt (al N d) N l c.Name c.Steps c.Fuel c.Vars c.Ports c.Timers c.States c.At names states 0 0 (fun y => k 0 0 y) (fun y z w => k z w y) m (IntKind.wrap .i64 (((pre.length : Nat) : Int) + 1)) r80)))
 else
  (bO (al N d) N l pre.length c.Name c.Steps c.Fuel c.Vars c.Ports c.Timers c.States c.At y75 names states 0 0 y76 y77 (k y76 y77 y75)
   (bt (al N d) N l c.Name c.Steps c.Fuel c.Vars c.Ports c.Timers c.States c.At names states 0 0 (fun y => k 0 0 y) (fun y z w => k z w y) m (IntKind.wrap .i64 (((pre.length : Nat) : Int) + 1)) y75))) 0 0 e.Kind e.Name e.Entry e.Exit e.Kids e.At e.Trans [] N n f rfl (by omega) h0 h1 hf
     rw [ur hf (yC _ _ _)] at hfe
     rw [hfe] at g1 g2
     simp only [List.length_nil] at g1
     refine (show ∃ n', _ = _ ∧ _ from ?_)
     rw [show (((0 : Nat) : Int)) = 0 from rfl] at g1
     rw [g1]
     by_cases hz : (elF (prR c names states) n e).1 = 0
     ·obtain ⟨rfl, g3⟩ := g2 hz
      rw [if_pos (by simp [hz])]
      obtain ⟨n2, g4, g5⟩ := ih R e.Kids (n + e.Trans.length) (fun (r78 : Int) (r79 : Int) (r80 : Int) =>
  bO (al N d) N l pre.length c.Name c.Steps c.Fuel c.Vars c.Ports c.Timers c.States c.At r80 names states 0 0 r78 r79 (k r78 r79 r80)
   (bt (al N d) N l c.Name c.Steps c.Fuel c.Vars c.Ports c.Timers c.States c.At names states 0 0 (fun y => k 0 0 y) (fun y z w => k z w y) m (IntKind.wrap .i64 (((pre.length : Nat) : Int) + 1)) r80)) (by omega) (by omega) hok4 (by omega) g3
      rw [g4, c14, (Ti _ _ _) hz, aG (ao (tP _ _ _) (tP _ _ _))]
      by_cases hz2 : (inF (prR c names states) (n + e.Trans.length) (flL e.Kids)).1 = 0
      ·obtain ⟨rfl, g6⟩ := g5 hz2
       have hcp := Mj (flL e.Kids)
       rw [if_pos hz2, hr]
       obtain ⟨n3, g7, g8⟩ := ihr (pre ++ [e]) m (n + e.Trans.length + cnt (flL e.Kids)) (by rw [h]; simp) (by simp at hm; omega) (by omega) g6
       rw [(tP _ _ _) hz2, aG (tP _ _ _)]
       exact ⟨n3, g7, fun hz3 => by have := g8 hz3; omega⟩
      ·rw [if_neg hz2, aL _ hz2]
       exact ⟨n2, rfl, fun h3 => absurd h3 hz2⟩
     ·rw [if_neg (by simp [hz]), c14, if_neg hz, aL _ hz]
      exact ⟨n1, rfl, fun h3 => absurd h3 hz⟩
    by_cases hz : (kA (prR c names states) e.Entry).1 = 0
    ·rw [if_pos (by simp [hz]), Ed c names states n hN hc hs _ _ (by omega), bc]
     refine c8 _ (dG _ _) ?_
     unfold elF
     rw [(dG _ _) hz, aG (ao (dG _ _) (yC _ _ _))]
    ·rw [if_neg (by simp [hz])]
     refine c8 _ (dG _ _) ?_
     unfold elF
     rw [aL _ hz, aL _ hz]
  exact key l [] N n0 rfl (by omega) hn0 hn1
theorem Nd (c : Chart) (names states : List (List UInt8)) (hN : big ≤ N) (hc : rF c) (hs : states.length < big) (hn : names.length < big) (l : List State) (k : Int → Int → Int → Option R) (h1 : aN l < 20000) (h2 : mu l) :
  ∃ n', r12_looking_inner N l c.Name c.Steps c.Fuel c.Vars c.Ports c.Timers c.States c.At 0 names states k = k (inF (prR c names states) 0 (flL l)).1 (inF (prR c names states) 0 (flL l)).2 n' := by
 have hb : big = 1000000000 := rfl
 unfold r12_looking_inner
 obtain ⟨n', g, _⟩ := Ku c names states hN hc hs hn N R l 0 k (by omega) h1 h2 (by omega) (by omega)
 exact ⟨n', g⟩
end
def Uq (l : List State) : Prop := (l.map (·.Name)).Nodup
theorem Ng {top : Bool} {out : List State} {s : State} (h : (iq top out s).1 = 0) : ∀ x ∈ out, x.Name ≠ s.Name := by
 unfold iq at h
 have h1 := (cz.1 (cz.1 h).2).1
 rw [sZ (by decide)] at h1
 intro x hx hc
 have := List.any_eq_false.1 (by simpa using h1 : (out.any fun e => e.Name == s.Name) = false) x hx
 simp [hc] at this
theorem RE {out : List State} {s : State} (h : Uq out) (hn : ∀ x ∈ out, x.Name ≠ s.Name) : Uq (out ++ [s]) := by
 unfold Uq at *
 rw [List.map_append, List.nodup_append]
 refine ⟨h, by simp, fun a ha b hb => ?_⟩
 obtain ⟨x, hx, rfl⟩ := List.mem_map.1 ha
 simp only [List.map_cons, List.map_nil, List.mem_singleton] at hb
 subst hb
 exact hn x hx
theorem Pa : ∀ (l : List State) (top : Bool) (out : List State), Uq out → (trL top out l).1 = 0 → Uq (out ++ flL l) := by
 intro l
 refine State.rec_1 (motive_1 := fun s => ∀ (top : Bool) (out : List State), Uq out → (tr1 top out s).1 = 0 → Uq (out ++ flS s)) (motive_2 := fun l => ∀ (top : Bool) (out : List State), Uq out → (trL top out l).1 = 0 → Uq (out ++ flL l)) ?_ ?_ ?_ l
 ·intro k n en ex tr kids a ih top out hu h
  rw [zC] at h
  obtain ⟨h1, h2⟩ := cz.1 h
  have := ih false _ (RE hu (Ng h1)) h2
  rw [bD]
  simpa using this
 ·intro top out hu _
  simpa [flL] using hu
 ·intro s r h1 h2 top out hu h
  simp only [trL] at h
  obtain ⟨g1, g2⟩ := cz.1 h
  have := h2 top _ (h1 top out hu g1) g2
  simpa [flL] using this
theorem Iv : ∀ {l : List State} (s : List UInt8), Uq l → CI l s = (stN l).any fun e => e == s
 | [], s, _ => rfl
 | x :: r, s, h => by
  have h' : Uq r := by unfold Uq at *; simp only [List.map_cons, List.nodup_cons] at h; exact h.2
  have hx : ∀ y ∈ r, y.Name ≠ x.Name := by
   unfold Uq at h
   simp only [List.map_cons, List.nodup_cons] at h
   intro y hy hc
   exact h.1 (List.mem_map.2 ⟨y, hy, hc⟩)
  have ih := Iv s h'
  have hst : stN (x :: r) = (if isH x = true then stN r else x.Name :: stN r) := by
   unfold stN
   cases hh : isH x <;> simp [List.filter_cons, hh]
  rw [hst]
  by_cases hn : x.Name = s
  ·have hnone : (stN r).any (fun e => e == s) = false := by
    rw [List.any_eq_false]
    intro e he hc
    unfold stN at he
    obtain ⟨y, hy, rfl⟩ := List.mem_map.1 he
    have := hx y (List.mem_filter.1 hy).1
    simp only [beq_iff_eq] at hc
    exact this (hc.trans hn.symm)
   unfold CI
   simp only [List.find?_cons, hn, beq_self_eq_true]
   cases hh : isH x <;> simp [hnone]
  ·have hb : (x.Name == s) = false := by simpa using hn
   have : CI (x :: r) s = CI r s := by
    unfold CI
    simp only [List.find?_cons, hb]
   rw [this, ih]
   cases hh : isH x <;> simp [hb]
theorem Uy (c : Chart) {l : List State} (h : Uq l) : prR c (l.map (·.Name)) (stN l) = oa c l := by
 unfold prR oa
 congr 1
 ·funext s; exact (Iv s h).symm
 ·funext s; exact Ef l s
section
variable {R : Type} {N : Nat}
theorem Nh (pre : List Chart) (c : Chart) (rest l : List Chart) (k : Int → Int → Option R) (hN : big ≤ N) (hl : l.length < big) (hc : Dq c) (h : l = pre ++ c :: rest) : yG N l pre.length k = kf k (tO pre c) := by
 have hb : big = 1000000000 := rfl
 have hlen : l.length = pre.length + (rest.length + 1) := by rw [h]; simp
 obtain ⟨c1, c2, c3, c4, c5⟩ := hc
 have hcl : rF c := ⟨c1, c2, c3⟩
 have hat : at? l pre.length = some c := bf (by omega) (by rw [h]; simp)
 have hll := db c.States
 unfold yG
 rw [hat, Option.bind_some]
 generalize hrest : (((ifB (decide (c.Steps < 2)) false (some (decide (c.Steps > 16))) (some true)).bind fun c17 =>
 (ifB c17 false (some (decide (c.Fuel < 1))) (some true)).bind fun c18 =>
 (ifB c18 false (some (decide (c.Fuel > 4096))) (some true)).bind fun c19 =>
 if c19 = true then
  (k 16 c.At)
 else
  (oB N c.States (fun (r20 : Bool) =>
 if (!r20) = true then
  (k 7 c.At)
 else
  (pB N c.Vars 8 (fun (r21 : Int) (r22 : Int) =>
 mN N 0 0 c.Name c.Steps c.Fuel c.Vars c.Ports c.Timers c.States c.At c.Name c.Steps c.Fuel c.Vars c.Ports c.Timers c.States c.At 0 r21 r22 (fun (y132 : Int) (y133 : Int) =>
 k y132 y133)))))) : Option R) = rst
 have hs := search (l := pre) (fun e => e.Name == c.Name) (fun j => if j < 0 then rst else k 8 c.At) (by omega) (fun n i => lV N l pre.length 0 0 c.Name c.Steps c.Fuel c.Vars c.Ports c.Timers c.States c.At rst (fun y => k y c.At) n i) (fun n i e h0 h1 h2 h3 h4 => ?_) (fun n i hd => ?_) N (by omega)
 ·refine Eq.trans hs ?_
  have hany := jY (fun e : Chart => e.Name == c.Name) pre
  unfold tO
  by_cases hz : idx (fun e : Chart => e.Name == c.Name) pre < 0
  ·have ha : (pre.any fun e => e.Name == c.Name) = false := by
    have := hany
    rw [decide_eq_true hz] at this
    simpa using this.symm
   rw [if_pos hz, ha, Bool.not_false, bd, aG (OV c), ← hrest]
   simp only [aZ, Option.bind_some]
   have hcnd : (((decide (c.Steps < 2) || decide (c.Steps > 16)) || decide (c.Fuel < 1)) || decide (c.Fuel > 4096)) = !(decide (c.Steps ≥ 2) && decide (c.Steps ≤ 16) && (decide (c.Fuel ≥ 1) && decide (c.Fuel ≤ 4096))) := by
    rw [Bool.eq_iff_iff]
    simp only [Bool.or_eq_true, decide_eq_true_eq, Bool.not_eq_true', Bool.and_eq_false_iff, decide_eq_false_iff_not]
    omega
   rw [hcnd]
   unfold chF xi
   rcases Bool.eq_false_or_eq_true (decide (c.Steps ≥ 2) && decide (c.Steps ≤ 16) && (decide (c.Fuel ≥ 1) && decide (c.Fuel ≤ 4096))) with h16 | h16
   rotate_left
   ·rw [h16, Bool.not_false, if_pos rfl, aT, aL (a := (16, c.At)) _ (by simp), aL (a := (16, c.At)) _ (by simp)]; rfl
   rw [h16, Bool.not_true, if_neg (by simp), bd, zA _ _ hN (by omega), Mf c5]
   rcases Bool.eq_false_or_eq_true (c.States.any fun e => !isH e) with h7 | h7
   rotate_left
   ·rw [h7, Bool.not_false, if_pos rfl, aT, aL (a := (7, c.At)) _ (by simp), aG (by intro h; simp at h), aL (a := (7, c.At)) _ (by simp)]; rfl
   rw [h7, Bool.not_true, if_neg (by simp), bd]
   have n1 : Nf (gP (mo 8) [] c.Vars) := fv (qd _) _ _
   have n2 : Nf (gP (mo 6) [] c.Ports) := fv (qd _) _ _
   have n3 : Nf (gP (mo 6) [] c.Timers) := fv (qd _) _ _
   have n4 := tQ c.States true []
   have n5 := tP (oa c (flL c.States)) (flL c.States) 0
   rw [aG (ao sY (ao n1 (ao n2 n3))), aG (ao n1 (ao n2 n3))]
   rw [aO, aO, Cb _ _ _ hN (by omega) (by omega), bc]
   -- the ends of the chain
   have c19 : ∀ (f : Flt) x1 x2 nm st, Nf f → (f.1 = 0 → nm = (flL c.States).map (·.Name) ∧ st = stN (flL c.States) ∧ (flL c.States).length ≤ 63 ∧ (trL true [] c.States).1 = 0) → kr N x1 x2 c.Name c.Steps c.Fuel c.Vars c.Ports c.Timers c.States c.At c.Name c.Steps c.Fuel c.Vars c.Ports c.Timers c.States c.At 0 nm st f.1 f.2 (fun y z => k y z) = kf k (orF f (inF (oa c (flL c.States)) 0 (flL c.States))) := by
    intro f x1 x2 nm st hf hq
    unfold kr
    by_cases hz : f.1 = 0
    ·obtain ⟨rfl, rfl, g3, g4⟩ := hq hz
     have hu := Pa c.States true [] (by simp [Uq]) g4
     have hsl : (stN (flL c.States)).length ≤ (flL c.States).length := by unfold stN; rw [List.length_map]; exact List.length_filter_le _ _
     rw [if_pos (by simp [hz])]
     obtain ⟨n', g⟩ := Nd c ((flL c.States).map (·.Name)) (stN (flL c.States)) hN hcl (by omega) (by simp; omega) c.States (fun r117 r118 _ => k r117 r118) (by omega) c5
     rw [g, Uy c (by simpa using hu), hf hz, aG n5]; rfl
    ·rw [if_neg (by simp [hz]), aL _ hz]; rfl
   have c17 : ∀ (f : Flt) x1 x2, Nf f → mL N x1 x2 c.Name c.Steps c.Fuel c.Vars c.Ports c.Timers c.States c.At c.Name c.Steps c.Fuel c.Vars c.Ports c.Timers c.States c.At 0 f.1 f.2 (fun y z => k y z) = kf k (orF f (orF (trL true [] c.States) (inF (oa c (flL c.States)) 0 (flL c.States)))) := by
    intro f x1 x2 hf
    unfold mL
    by_cases hz : f.1 = 0
    ·rw [if_pos (by simp [hz])]
     obtain ⟨nm, st, g1, g2⟩ := Nc c 0 hN true c.States (fun (r90 : Int) (r91 : Int) (r92 : List (List UInt8)) (r93 : List (List UInt8)) =>
  kr N x1 x2 c.Name c.Steps c.Fuel c.Vars c.Ports c.Timers c.States c.At c.Name c.Steps c.Fuel c.Vars c.Ports c.Timers c.States c.At 0 r92 r93 r90 r91 (fun (y120 : Int) (y121 : Int) =>
  k y120 y121)) (by omega) c5
     rw [g1, c19 _ _ _ _ _ n4 (fun h0 => by obtain ⟨q1, q2, q3⟩ := g2 h0; exact ⟨q1, q2, q3, h0⟩), hf hz, aG (ao n4 n5)]
    ·rw [if_neg (by simp [hz]), c19 _ _ _ _ _ hf (fun h0 => absurd h0 hz), aL _ hz, aL _ hz]
   have c15 : ∀ (f : Flt) x1 x2, Nf f → mM N x1 x2 c.Name c.Steps c.Fuel c.Vars c.Ports c.Timers c.States c.At c.Name c.Steps c.Fuel c.Vars c.Ports c.Timers c.States c.At 0 f.1 f.2 (fun y z => k y z) = kf k (orF f (orF (gP (mo 6) [] c.Timers) (orF (trL true [] c.States) (inF (oa c (flL c.States)) 0 (flL c.States))))) := by
    intro f x1 x2 hf
    unfold mM
    by_cases hz : f.1 = 0
    ·rw [if_pos (by simp [hz]), Cb _ _ _ hN (by omega) (by omega), bc, c17 _ _ _ n3, hf hz, aG (ao n3 (ao n4 n5))]
    ·rw [if_neg (by simp [hz]), c17 _ _ _ hf, aL _ hz, aL _ hz]
   have c13 : ∀ (f : Flt) x1 x2, Nf f → mN N x1 x2 c.Name c.Steps c.Fuel c.Vars c.Ports c.Timers c.States c.At c.Name c.Steps c.Fuel c.Vars c.Ports c.Timers c.States c.At 0 f.1 f.2 (fun y z => k y z) = kf k (orF f (orF (gP (mo 6) [] c.Ports) (orF (gP (mo 6) [] c.Timers) (orF (trL true [] c.States) (inF (oa c (flL c.States)) 0 (flL c.States)))))) := by
    intro f x1 x2 hf
    unfold mN
    by_cases hz : f.1 = 0
    ·rw [if_pos (by simp [hz]), Cb _ _ _ hN (by omega) (by omega), bc, c15 _ _ _ n2, hf hz, aG (ao n2 (ao n3 (ao n4 n5)))]
    ·rw [if_neg (by simp [hz]), c15 _ _ _ hf, aL _ hz, aL _ hz]
   exact c13 _ _ _ n1
  ·have ha : (pre.any fun e => e.Name == c.Name) = true := by
    have := hany
    rw [decide_eq_false hz] at this
    simpa using this.symm
   rw [if_neg hz, ha, Bool.not_true, aT, aL (a := (8, c.At)) _ (by simp)]; rfl
 ·have hi : l[i.toNat]? = some e := by rw [h, List.getElem?_append_left (by omega)]; exact h4
  have hdc : decide (i < ((pre.length : Nat) : Int)) = true := h2
  simp only [lV, oF, hdc, bf h0 hi, if_true, Option.bind_some]
  by_cases hn : (e.Name == c.Name) = true
  ·rw [if_pos hn, if_pos hn, if_neg (by omega)]
  ·rw [if_neg hn, if_neg hn]
 ·simp only [lV, oF, hd]
  simp
end
theorem Hk {E : Type} (p : E → Bool) (x : E) (rest : List E) (hx : p x = true) : ∀ pre : List E, decide (idx p (pre ++ x :: rest) < ((pre.length : Nat) : Int)) = pre.any p
 | [] => by simp [idx, hx]
 | e :: r => by
  have ih := Hk p x rest hx r
  simp only [List.cons_append, idx, List.any_cons]
  cases he : p e with
  | true => simp
  | false =>
   have hany : (r ++ x :: rest).any p = true := by simp [hx]
   have hge : ¬ idx p (r ++ x :: rest) < 0 := by
    have := jY p (r ++ x :: rest)
    rw [hany] at this
    exact of_decide_eq_false this
   simp only [Bool.false_eq_true, if_false, hge, Bool.false_or, ← ih, List.length_cons]
   simp only [decide_eq_decide]
   omega
theorem Pb {E F : Type} (f : E → F) (g : F → Flt) : ∀ (l : List E) (pre : List E) (pre2 : List F), gP (fun _ y => g y) pre2 (l.map f) = gP (fun _ x => g (f x)) pre l
 | [], _, _ => rfl
 | e :: r, pre, pre2 => by simp only [List.map_cons, gP]; rw [Pb f g r (pre ++ [e]) (pre2 ++ [f e])]
section
variable {R : Type} {N : Nat}
theorem Ni (A : Int) (Cs : List Chart) (Is : List Inst) (Hs : List ai) (Es : List Cert) (k : Int → Int → Option R) (hN : big ≤ N) (hc : Cs.length < big) (hi : Is.length < big) : uX N A Cs Is Hs Es k = kf k (gP (wF Cs) [] Is) := by
 have hb : big = 1000000000 := rfl
 unfold uX
 have := (uz (wF Cs) (Ax Cs) (fun _ => True) k hi (fun n i => lX N A Cs Is Hs Es 0 0 (k 0 0) (fun y z => k y z) n i) (fun n pre e rest h _ h1 h2 => ⟨?_, fun _ => trivial⟩) (k 0 0) (fun n h _ => ?_) trivial N (by omega)).1
 ·rw [Gu (fv (Ax _) _ _)] at this
  exact this
 ·simp only [lX, oH, h1, h2, if_true, Option.bind_some]
  rw [vz _ _ _ _ _ _ _ hN hi, show decide (idx (fun x => x.Name == e.Name) Is < ((pre.length : Nat) : Int)) = pre.any (fun x => x.Name == e.Name) by rw [h]; exact Hk _ _ _ (by simp) _]
  unfold wF
  rcases Bool.eq_false_or_eq_true (pre.any fun x => x.Name == e.Name) with h8 | h8
  ·rw [if_pos h8, h8, Bool.not_true, aT, aL (a := (8, e.At)) _ (by simp), if_neg (by simp)]; rfl
  rw [if_neg (by simp [h8]), h8, Bool.not_false, bd, CH _ _ _ _ _ _ _ hN hc, jY, aG (ao (aK _ _ (by decide)) (aK _ _ (by decide)))]
  rcases Bool.eq_false_or_eq_true (Cs.any fun x => x.Name == e.Chart) with h7 | h7
  rotate_left
  ·rw [h7, Bool.not_false, if_pos rfl, aT, aL (a := (7, e.At)) _ (by simp), if_neg (by simp)]; rfl
  rw [h7, Bool.not_true, if_neg (by simp), bd, aG (aK _ _ (by decide))]
  simp only [aZ, Option.bind_some]
  have hcnd : (((((decide (e.Quantum < 1) || decide (e.Quantum > 65536)) || decide (e.Ext < 0)) || decide (e.Ext > 32)) || decide (e.Prio < 0)) || decide (e.Prio > 7)) = !((decide (e.Quantum ≥ 1) && decide (e.Quantum ≤ 65536)) && (decide (e.Ext ≥ 0) && decide (e.Ext ≤ 32)) && (decide (e.Prio ≥ 0) && decide (e.Prio ≤ 7))) := by
   rw [Bool.eq_iff_iff]
   simp only [Bool.or_eq_true, decide_eq_true_eq, Bool.not_eq_true', Bool.and_eq_false_iff, decide_eq_false_iff_not]
   omega
  rw [hcnd]
  rcases Bool.eq_false_or_eq_true ((decide (e.Quantum ≥ 1) && decide (e.Quantum ≤ 65536)) && (decide (e.Ext ≥ 0) && decide (e.Ext ≤ 32)) && (decide (e.Prio ≥ 0) && decide (e.Prio ≤ 7))) with hr | hr
  ·rw [hr, Bool.not_true, if_neg (by simp), bd, if_pos rfl]
  ·rw [hr, Bool.not_false, if_pos rfl, aT, if_neg (by simp)]; rfl
 ·simp only [lX, oH, h]
  simp
def Iw (Cs : List Chart) (Is : List Inst) : Prop := ∀ x ∈ Is, (Cs.any fun e => e.Name == x.Chart) = true
theorem Cc {E : Type} (g : List E → E → Flt) : ∀ (l pre : List E), (gP g pre l).1 = 0 → ∀ x ∈ l, ∃ p, (g p x).1 = 0
 | [], _, _, x, hx => by cases hx
 | e :: r, pre, h, x, hx => by
  simp only [gP] at h
  obtain ⟨h1, h2⟩ := cz.1 h
  rcases List.mem_cons.1 hx with rfl | hx
  ·exact ⟨pre, h1⟩
  ·exact Cc g r _ h2 x hx
theorem Uz {Cs : List Chart} {Is : List Inst} (h : (gP (wF Cs) [] Is).1 = 0) : Iw Cs Is := by
 intro x hx
 obtain ⟨p, hp⟩ := Cc _ _ _ h x hx
 unfold wF at hp
 have := (cz.1 (cz.1 hp).2).1
 rwa [sZ (by decide)] at this
theorem tg {Cs : List Chart} {Is : List Inst} (h : Iw Cs Is) (n : List UInt8) : (cE Cs Is n).isSome = Is.any fun e => e.Name == n := by
 rw [← CJ]
 unfold cE
 cases hf : Is.find? fun e => e.Name == n with
 | none => rfl
 | some i =>
  have := h i (List.mem_of_find?_eq_some hf)
  rw [← CJ] at this
  simpa using this
theorem Cd (n : List UInt8) (A : Int) (Cs : List Chart) (Is : List Inst) (Hs : List ai) (Es : List Cert) (k : (List UInt8) → Int → Int → (List af) → (List af) → (List af) → (List State) → Int → Option R) (hN : big ≤ N) (hc : Cs.length < big) (hi : Is.length < big) (h : (cE Cs Is n).isSome = true) :
  qN N A Cs Is Hs Es n k = (fun c : Chart => k c.Name c.Steps c.Fuel c.Vars c.Ports c.Timers c.States c.At) ((cE Cs Is n).getD c0) := by
 unfold qN
 rw [vz _ _ _ _ _ _ _ hN hi]
 unfold cE at h ⊢
 by_cases hz : idx (fun e => e.Name == n) Is < 0
 ·rw [rz hz] at h; simp at h
 ·obtain ⟨e, h1, h2⟩ := qV hz
  rw [h2] at h ⊢
  simp only [h1, Option.bind_some] at h ⊢
  rw [CH _ _ _ _ _ _ _ hN hc]
  by_cases hz2 : idx (fun x => x.Name == e.Chart) Cs < 0
  ·rw [rz hz2] at h; simp at h
  ·obtain ⟨c, h3, h4⟩ := qV hz2
   simp only [h3, h4, Option.bind_some]
   rfl
theorem Ix (pre rest l : List ai) (a b : List UInt8) (A : Int) (Cs : List Chart) (Is : List Inst) (Es : List Cert) (k : Bool → Option R) (hN : big ≤ N) (hl : l.length < big) (h : l = pre ++ rest) : yh N A Cs Is l Es pre.length a b k = k (pre.any fun y => y.From == a && y.Port == b) := by
 have hb : big = 1000000000 := rfl
 have hlen : pre.length ≤ l.length := by rw [h]; simp
 unfold yh
 rw [← bj]
 refine search (fun y : ai => y.From == a && y.Port == b) (fun j => k (decide (j ≥ 0))) (by omega) (fun n i => nT N pre.length a b A Cs Is l Es (k false) (fun y => k y) n i) (fun n i e h0 h1 h2 h3 h4 => ?_) (fun n i h => ?_) N (by omega)
 ·have hi : l[i.toNat]? = some e := by rw [h, List.getElem?_append_left (by omega)]; exact h4
  simp only [nT, pQ, h2, bf h0 hi, if_true, Option.bind_some, ax]
  split
  ·simp [h0]
  ·rfl
 ·simp only [nT, pQ, h]
  simp
theorem Nj (A : Int) (Cs : List Chart) (Is : List Inst) (Hs : List ai) (Es : List Cert) (k : Int → Int → Option R) (hN : big ≤ N) (hc : Cs.length < big) (hi : Is.length < big) (hh : Hs.length < big) (hcs : ∀ c ∈ Cs, Eb c) (hall : Iw Cs Is) :
  uZ N A Cs Is Hs Es k = kf k (orF (gP (wG Cs Is) [] Hs) (gP (fun _ x => te Cs Is Hs x) [] Is)) := by
 have hb : big = 1000000000 := rfl
 have hports : ∀ n, (((cE Cs Is n).getD c0).Ports.length : Int) ≤ 16385 := fun n => (Aw OU hcs n).1.2.1
 unfold uZ
 -- ports of instances
 have l3 := (uz (fun _ x => te Cs Is Hs x) (fun _ x => xn _ _ _ x) (fun _ => True) k hi (fun n i => iH N A Cs Is Hs Es 0 0 (k 0 0) (fun y z => k y z) n i) (fun n pre e rest h _ h1 h2 => ⟨?_, fun _ => trivial⟩) (k 0 0) (fun n h _ => ?_) trivial N (by omega)).1
 rw [Gu (fv (fun _ x => xn _ _ _ x) _ _)] at l3
 rw [l3]
 have l0 := (uz (wG Cs Is) (Ay Cs Is) (fun _ => True) k hh (fun n i => lY N A Cs Is Hs Es 0 0 (kf k (gP (fun _ x => te Cs Is Hs x) [] Is)) (fun y z => k y z) n i) (fun n pre e rest h _ h1 h2 => ⟨?_, fun _ => trivial⟩) (kf k (gP (fun _ x => te Cs Is Hs x) [] Is)) (fun n h _ => ?_) trivial N (by omega)).1
 ·refine Eq.trans l0 ?_
  have := fv (Ay Cs Is) Hs []
  by_cases hz : (gP (wG Cs Is) [] Hs).1 = 0
  ·rw [if_pos hz, this hz, aG (fv (fun _ x => xn _ _ _ x) _ _)]
  ·rw [if_neg hz, aL _ hz]
 ·simp only [lY, oI, h1, h2, if_true, Option.bind_some]
  rw [zB _ _ _ _ _ _ _ hN hh, show decide (idx (fun x => x.Name == e.Name) Hs < ((pre.length : Nat) : Int)) = pre.any (fun x => x.Name == e.Name) by rw [h]; exact Hk _ _ _ (by simp) _]
  unfold wG
  rcases Bool.eq_false_or_eq_true (pre.any fun x => x.Name == e.Name) with h8 | h8
  ·rw [if_pos h8, h8, Bool.not_true, aT, aL (a := (8, e.At)) _ (by simp), if_neg (by simp)]; rfl
  rw [if_neg (by simp [h8]), h8, Bool.not_false, bd, aG (ao (aK _ _ (by decide)) (ao (aK _ _ (by decide)) (aK _ _ (by decide))))]
  simp only [vz _ _ _ _ _ _ _ hN hi, jY]
  have hof : (ifB (!Is.any fun x => x.Name == e.From) false (qN N A Cs Is Hs Es e.From (fun (r12 : List UInt8) (r13 : Int) (r14 : Int) (r15 : List af) (r16 : List af) (r17 : List af) (r18 : List State) (r19 : Int) =>
  jk N r16 (fun (r20 : List (List UInt8)) =>
  eW N r20 e.Port (fun (r21 : Bool) =>
  some (!r21))))) (some true)) = some (!((cE Cs Is e.From).isSome && ((cE Cs Is e.From).getD c0).Ports.any fun x => x.Name == e.Port)) := by
   have hs := tg hall e.From
   rcases Bool.eq_false_or_eq_true (Is.any fun x => x.Name == e.From) with hf | hf
   ·rw [hf] at hs
    have hp := hports e.From
    rw [Cd _ _ _ _ _ _ _ hN hc hi hs]
    dsimp only
    rw [ph _ _ hN (by omega), eh _ _ _ hN (by simp; omega), qW, hf, hs]
    simp [ifB]
   ·rw [hf] at hs
    rw [hf, hs]
    simp [ifB]
  rw [hof]
  simp only [aZ, Option.bind_some]
  have hcnd : (!((cE Cs Is e.From).isSome && ((cE Cs Is e.From).getD c0).Ports.any fun x => x.Name == e.Port) || !Is.any fun x => x.Name == e.To) = !((cE Cs Is e.From).isSome && (cE Cs Is e.To).isSome && ((cE Cs Is e.From).getD c0).Ports.any fun x => x.Name == e.Port) := by
   rw [tg hall e.To]
   generalize (cE Cs Is e.From).isSome = q1
   generalize (((cE Cs Is e.From).getD c0).Ports.any fun x => x.Name == e.Port) = q2
   generalize (Is.any fun x => x.Name == e.To) = q3
   cases q1 <;> cases q2 <;> cases q3 <;> rfl
  rw [hcnd]
  unfold vU
  rcases Bool.eq_false_or_eq_true ((cE Cs Is e.From).isSome && (cE Cs Is e.To).isSome && ((cE Cs Is e.From).getD c0).Ports.any fun x => x.Name == e.Port) with h7 | h7
  rotate_left
  ·rw [h7, Bool.not_false, if_pos rfl, aT, aL (a := (7, e.At)) _ (by simp), if_neg (by simp)]; rfl
  rw [h7, Bool.not_true, if_neg (by simp), bd, aG (ao (aK _ _ (by decide)) (aK _ _ (by decide))), Ix pre (e :: rest) Hs _ _ _ _ _ _ _ hN hh h]
  rcases Bool.eq_false_or_eq_true (pre.any fun y => y.From == e.From && y.Port == e.Port) with h9 | h9
  ·rw [h9, Bool.not_true, if_pos rfl, aT, aL (a := (8, e.At)) _ (by simp), if_neg (by simp)]; rfl
  rw [h9, if_neg (by simp), Bool.not_false, bd, aG (aK _ _ (by decide))]
  simp only [aZ, Option.bind_some]
  have hcnd : (((decide (e.Cap < 1) || decide (e.Cap > 32)) || decide (e.Prio < 0)) || decide (e.Prio > 7)) = !((decide (e.Cap ≥ 1) && decide (e.Cap ≤ 32)) && (decide (e.Prio ≥ 0) && decide (e.Prio ≤ 7))) := by
   rw [Bool.eq_iff_iff]
   simp only [Bool.or_eq_true, decide_eq_true_eq, Bool.not_eq_true', Bool.and_eq_false_iff, decide_eq_false_iff_not]
   omega
  rw [hcnd]
  rcases Bool.eq_false_or_eq_true ((decide (e.Cap ≥ 1) && decide (e.Cap ≤ 32)) && (decide (e.Prio ≥ 0) && decide (e.Prio ≤ 7))) with hr | hr
  ·rw [hr, Bool.not_true, if_neg (by simp), bd, if_pos rfl]
  ·rw [hr, Bool.not_false, if_pos rfl, aT, if_neg (by simp)]; rfl
 ·simp only [lY, oI, h]
  simp
 ·have he : e ∈ Is := by rw [h]; simp
  have hs : (cE Cs Is e.Name).isSome = true := by
   rw [tg hall, List.any_eq_true]
   exact ⟨e, he, by simp⟩
  have hp := hports e.Name
  simp only [iH, oL, h1, h2, if_true, Option.bind_some]
  rw [Cd _ _ _ _ _ _ _ hN hc hi hs]
  dsimp only
  rw [ph _ _ hN (by omega)]
  have l5 := (uz (l := ((cE Cs Is e.Name).getD c0).Ports.map (·.Name)) (fun _ nm => chk (Hs.any fun y => y.From == e.Name && y.Port == nm) 7 e.At) (fun _ _ => aK _ _ (by decide)) (fun _ => True) k (by simp; omega) (fun m i => lZ N pre.length (((cE Cs Is e.Name).getD c0).Ports.map (·.Name)) A Cs Is Hs Es 0 0 (iH N A Cs Is Hs Es 0 0 (k 0 0) (fun y z => k y z) n (IntKind.wrap .i64 (((pre.length : Nat) : Int) + 1))) (fun y z => k y z) m i) (fun m pre2 nm rest2 h' _ h1' h2' => ⟨?_, fun _ => trivial⟩) (iH N A Cs Is Hs Es 0 0 (k 0 0) (fun y z => k y z) n (IntKind.wrap .i64 (((pre.length : Nat) : Int) + 1))) (fun m h' _ => ?_) trivial N (by simp; omega)).1
  ·rw [Pb (fun n : af => n.Name) (fun nm => chk (Hs.any fun y => y.From == e.Name && y.Port == nm) 7 e.At) _ [] []] at l5
   exact l5
  ·simp only [lZ, oJ, h1', h2', h2, if_true, Option.bind_some]
   rw [Ix Hs [] Hs _ _ _ _ _ _ _ hN hh (by simp)]
   rcases Bool.eq_false_or_eq_true (Hs.any fun y => y.From == e.Name && y.Port == nm) with h7 | h7
   ·rw [h7, Bool.not_true, if_neg (by simp), bd, if_pos rfl]
   ·rw [h7, Bool.not_false, if_pos rfl, aT, if_neg (by simp)]; rfl
  ·simp only [lZ, oJ, h']
   simp
 ·simp only [iH, oL, h]
  simp
end
def tri (n : Node) : Int × Int × List UInt8 := (n.Kind, n.Parent, n.Name)
def kG (s : State) : Int := if s.Kind = 3 then 4 else if s.Kind = 4 then 5 else if s.Kind = 2 then 3 else if s.Kids.length = 0 then 1 else 2
mutual
def nS (up i : Int) : State → List (Int × Int × State)
 | ⟨k, n, en, ex, tr, kids, a⟩ => (i, up, ⟨k, n, en, ex, tr, kids, a⟩) :: nL i (i + 1) kids
def nL (up i : Int) : List State → List (Int × Int × State)
 | [] => []
 | s :: r => nS up i s ++ nL up (i + (flS s).length) r
end
theorem Hl (up i : Int) (s : State) : nS up i s = (i, up, s) :: nL i (i + 1) s.Kids := by cases s; simp [nS]
def AB (x : Int × Int × State) : Int × Int × List UInt8 := (kG x.2.2, x.2.1, x.2.2.Name)
theorem kS : ∀ (l : List State) (up i : Int), (nL up i l).map (·.2.2) = flL l := by
 intro l
 refine State.rec_1 (motive_1 := fun s => ∀ up i, (nS up i s).map (·.2.2) = flS s) (motive_2 := fun l => ∀ up i, (nL up i l).map (·.2.2) = flL l) ?_ ?_ ?_ l
 ·intro k n en ex tr kids a ih up i
  rw [Hl, bD, List.map_cons, ih]
 ·intro up i; simp [nL, flL]
 ·intro s r h1 h2 up i
  simp only [nL, flL, List.map_append, h1, h2]
theorem rJ (l : List State) (up i : Int) : (nL up i l).length = (flL l).length := by rw [← kS l up i, List.length_map]
theorem xp {l : List Node} {i : Nat} {x y : Node} (h : l[i]? = some y) (ht : tri x = tri y) : (l.set i x).map tri = l.map tri := by
 rw [List.map_set]
 have : (l.map tri)[i]? = some (tri y) := by rw [List.getElem?_map, h]; rfl
 rw [ht]
 obtain ⟨hi, hv⟩ := List.getElem?_eq_some_iff.1 this
 rw [← hv]
 exact List.set_getElem_self hi
section
variable {R : Type} {N : Nat}
theorem Nk (hN : big ≤ N) : ∀ (d : Nat) (R : Type) (l : List State) (k : Bool → Option R), aN l < d → aN l < 20000 → mu l → (cA N d).r12_history R l k = k ((flL l).any isH) := by
 have hb : big = 1000000000 := rfl
 intro d
 induction d with
 | zero => intro R l k h; have := bH l; omega
 | succ d ih =>
  intro R l k hd hs hok
  have hll := db l
  rw [ET]
  unfold mO
  have hany : ∀ l : List State, (flL l).any isH = l.any fun s => (flS s).any isH := by
   intro l
   induction l with
   | nil => rfl
   | cons s r ih => simp only [flL, List.any_append, List.any_cons, ih]
  rw [hany, ← bj]
  refine search (l := l) (fun s => (flS s).any isH) (fun j => k (decide (j ≥ 0))) (by omega) (fun n i => jn (cA N d) N l (k false) (fun y => k y) n i) (fun n i e h0 h1 h2 h3 h4 => ?_) (fun n i h => ?_) N (by omega)
  ·have he : e ∈ l := List.mem_of_getElem? h4
   have hoe := uA hok e he
   have := rI l e he
   have := ka e
   simp only [jn, ma, h2, h3, if_true, Option.bind_some]
   rw [pf, Ee hoe, Bool.not_not]
   simp only [ih _ _ _ (show aN e.Kids < d by omega) (show aN e.Kids < 20000 by omega) (mG hoe).2.2, aZ, Option.bind_some]
   rw [bD, List.any_cons]
   split
   ·simp [h0]
   ·rfl
  ·simp only [jn, ma, h]
   simp
theorem Pc (hN : big ≤ N) (l : List State) (k : Bool → Option R) (h1 : aN l < 20000) (h2 : mu l) : r12_history N l k = k ((flL l).any isH) := by
 have hb : big = 1000000000 := rfl
 unfold r12_history
 exact Nk hN N R l k (by omega) h1 h2
theorem RF (s : State) (k : Int → Option R) : Bw N s.Kind s.Name s.Entry s.Exit s.Trans s.Kids s.At k = k (kG s) := by
 unfold Bw kG
 by_cases h3 : s.Kind = 3
 ·rw [if_pos (by simp [h3]), if_pos h3]
 rw [if_neg (by simp [h3]), if_neg h3]
 by_cases h4 : s.Kind = 4
 ·rw [if_pos (by simp [h4]), if_pos h4]
 rw [if_neg (by simp [h4]), if_neg h4]
 by_cases h2 : s.Kind = 2
 ·rw [if_pos (by simp [h2]), if_pos h2]
 rw [if_neg (by simp [h2]), if_neg h2]
 by_cases hz : s.Kids.length = 0
 ·rw [if_pos (by simp [hz]), if_pos hz]
 ·rw [if_neg (by simpa using hz), if_neg hz]
theorem RG (hN : big ≤ N) : ∀ (d : Nat) (R : Type) (kids : List State) (up : Int) (l : List Node) (k : List Node → Option R), aN kids < d → aN kids < 20000 → 0 ≤ up → up < l.length → l.length + aN kids < 100000 →
  ∃ l', (cd N d).r13_put R kids up l k = k l' ∧ l'.map tri = l.map tri ++ (nL up l.length kids).map AB := by
 have hb : big = 1000000000 := rfl
 intro d
 induction d with
 | zero => intro R kids up l k h; have := bH kids; omega
 | succ d ih =>
  intro R kids up l k hd hs hu0 hu1 hlen
  rw [Lc]
  unfold vb
  have hll := db kids
  have key : ∀ (rest pre : List State) (n : Nat) (l : List Node), kids = pre ++ rest → rest.length < n → up < l.length → l.length + aN rest < 100000 →
    ∃ l', jR (cd N d) N kids up (fun y => k y) n pre.length l = k l' ∧ l'.map tri = l.map tri ++ (nL up l.length rest).map AB := by
   intro rest
   induction rest with
   | nil =>
    intro pre n l h hn _ _
    obtain ⟨n, rfl⟩ : ∃ m, n = m + 1 := ⟨n - 1, by omega⟩
    have : kids = pre := by simpa using h
    subst this
    exact ⟨l, by simp [jR, rk], by simp [nL]⟩
   | cons e r ihr =>
    intro pre n l h hn hul hsz
    obtain ⟨n, rfl⟩ : ∃ m, n = m + 1 := ⟨n - 1, by omega⟩
    have hlen : kids.length = pre.length + (r.length + 1) := by rw [h]; simp
    have he : e ∈ kids := by rw [h]; simp
    have hes := rI kids e he
    have hk := ka e
    have hrp := bH r; have hkp := bH e.Kids
    obtain ⟨_, f2, _⟩ := Hf e.Kids
    simp only [aN] at hsz
    have hat : at? kids pre.length = some e := bf (by omega) (by rw [h]; simp)
    have hdc : decide (((pre.length : Nat) : Int) < ((kids.length : Nat) : Int)) = true := by simp; omega
    have hr : IntKind.wrap .i64 (((pre.length : Nat) : Int) + 1) = (((pre ++ [e]).length : Nat) : Int) := by rw [wr _ (by omega) (by omega)]; simp
    simp only [jR, rk, hdc, hat, if_true, Option.bind_some]
    rw [RF, if_pos (by simp [ak]; omega)]
    generalize hnd : (⟨kG e, up, 0, (-1), (-1), (-1), e.Name⟩ : Node) = nd
    have hl1 : (l ++ [nd]).length = l.length + 1 := by simp
    have hg1 : (0 : Int) ≤ up ∧ up < ((l ++ [nd]).length : Int) := ⟨hu0, by omega⟩
    have hg2 : (0 : Int) ≤ ((l.length : Nat) : Int) ∧ ((l.length : Nat) : Int) < ((l ++ [nd]).length : Int) := ⟨by omega, by omega⟩
    obtain ⟨y, hy⟩ : ∃ y, (l ++ [nd])[up.toNat]? = some y := ⟨_, List.getElem?_eq_getElem (by omega)⟩
    have hz : (l ++ [nd])[((l.length : Nat) : Int).toNat]? = some nd := by simp
    have htl : (l ++ [nd]).map tri = l.map tri ++ [AB (l.length, up, e)] := by
     rw [← hnd]; simp [tri, AB]
    -- the end of a round
    have c8 : ∀ l2 : List Node, l2.map tri = l.map tri ++ [AB (l.length, up, e)] → ∃ l', sA (cd N d) N kids up pre.length ((l.length : Nat) : Int) l2 (fun (y36 : List Node) => jR (cd N d) N kids up (fun y => k y) n (IntKind.wrap .i64 (((pre.length : Nat) : Int) + 1)) y36) = k l' ∧ l'.map tri = l.map tri ++ (nL up l.length (e :: r)).map AB := by
     intro l2 h2
     have hl2 : l2.length = l.length + 1 := by have := congrArg List.length h2; simpa using this
     unfold sA
     rw [hat, Option.bind_some]
     obtain ⟨l3, g1, g2⟩ := ih R e.Kids l.length l2 (fun (r20 : List Node) =>
 if (0 : Int) ≤ ((l.length : Nat) : Int) ∧ ((l.length : Nat) : Int) < (r20.length : Int) then (match r20[((l.length : Nat) : Int).toNat]? with
  | some e21 => (jR (cd N d) N kids up (fun y => k y) n (IntKind.wrap .i64 (((pre.length : Nat) : Int) + 1)) (r20.set ((l.length : Nat) : Int).toNat (⟨e21.Kind, e21.Parent, IntKind.wrap .i64 (((r20.length : Nat) : Int) - 1), e21.Init, e21.Entry, e21.Exit, e21.Name⟩ : Node)))
  | none => none) else none) (by omega) (by omega) (by omega) (by omega) (by omega)
     have hl3 : l3.length = l.length + 1 + (flL e.Kids).length := by
      have := congrArg List.length g2
      simp only [List.length_map, List.length_append, rJ] at this
      omega
     obtain ⟨w, hw⟩ : ∃ w, l3[((l.length : Nat) : Int).toNat]? = some w := ⟨_, List.getElem?_eq_getElem (by omega)⟩
     rw [if_pos ⟨by omega, by omega⟩, hw] at g1
     dsimp only at g1
     rw [hr] at g1 ⊢
     suffices hsuf : ∃ l', jR (cd N d) N kids up (fun y => k y) n (((pre ++ [e]).length : Nat) : Int) (l3.set ((l.length : Nat) : Int).toNat (⟨w.Kind, w.Parent, IntKind.wrap .i64 (((l3.length : Nat) : Int) - 1), w.Init, w.Entry, w.Exit, w.Name⟩ : Node)) = k l' ∧ l'.map tri = l.map tri ++ (nL up l.length (e :: r)).map AB by
      obtain ⟨l', q1, q2⟩ := hsuf
      exact ⟨l', g1.trans q1, q2⟩
     generalize hl4 : l3.set ((l.length : Nat) : Int).toNat (⟨w.Kind, w.Parent, IntKind.wrap .i64 (((l3.length : Nat) : Int) - 1), w.Init, w.Entry, w.Exit, w.Name⟩ : Node) = l4
     have ht4 : l4.map tri = l3.map tri := by rw [← hl4]; exact xp hw (x := ⟨w.Kind, w.Parent, IntKind.wrap .i64 (((l3.length : Nat) : Int) - 1), w.Init, w.Entry, w.Exit, w.Name⟩) rfl
     have hl4' : l4.length = l3.length := by rw [← hl4]; simp
     obtain ⟨l5, g3, g4⟩ := ihr (pre ++ [e]) n l4 (by rw [h]; simp) (by simp at hn; omega) (by omega) (by omega)
     refine ⟨l5, g3, ?_⟩
     rw [g4, ht4, g2, h2]
     have e1 : ((l4.length : Nat) : Int) = (l.length : Int) + ((flS e).length : Int) := by rw [bD, List.length_cons]; omega
     have e2 : ((l2.length : Nat) : Int) = (l.length : Int) + 1 := by omega
     rw [e1, e2]
     simp [nL, Hl, AB]
    rw [if_pos hg1, hy]
    dsimp only
    rw [if_pos hg1, if_pos hg2, hz]
    dsimp only
    simp only [ax, Option.bind_some]
    split
    ·exact c8 _ ((xp hy (x := ⟨y.Kind, y.Parent, y.Last, ((l.length : Nat) : Int), y.Entry, y.Exit, y.Name⟩) rfl).trans htl)
    ·exact c8 _ htl
  exact key kids [] N l rfl (by omega) hu1 hlen
def Tn (c : Chart) : List (Int × Int × List UInt8) := (2, -1, []) :: (nL 0 1 c.States).map AB
theorem Iy (c : Chart) (k : List Node → Option R) (hN : big ≤ N) (h : aN c.States < 20000) : ∃ nd, ve N c.Name c.Steps c.Fuel c.Vars c.Ports c.Timers c.States c.At k = k nd ∧ nd.map tri = Tn c := by
 have hb : big = 1000000000 := rfl
 unfold ve r13_put
 obtain ⟨l, g1, g2⟩ := RG hN N R c.States 0 [(⟨2, (-1), 0, (-1), (-1), (-1), []⟩ : Node)] (fun (r1 : List Node) =>
 if (0 : Int) ≤ 0 ∧ 0 < (r1.length : Int) then (match r1[(Int.toNat 0)]? with
  | some e2 => (k (r1.set (Int.toNat 0) (⟨e2.Kind, e2.Parent, IntKind.wrap .i64 (((r1.length : Nat) : Int) - 1), e2.Init, e2.Entry, e2.Exit, e2.Name⟩ : Node)))
  | none => none) else none) (by omega) h (by omega) (by simp) (by simp; omega)
 have hl : l.length = 1 + (flL c.States).length := by
  have := congrArg List.length g2
  simpa [rJ, Nat.add_comm] using this
 obtain ⟨w, hw⟩ : ∃ w, l[Int.toNat 0]? = some w := ⟨_, List.getElem?_eq_getElem (by show 0 < l.length; omega)⟩
 rw [if_pos ⟨by omega, by omega⟩, hw] at g1
 refine ⟨_, g1, ?_⟩
 refine (xp hw (x := ⟨w.Kind, w.Parent, IntKind.wrap .i64 (((l.length : Nat) : Int) - 1), w.Init, w.Entry, w.Exit, w.Name⟩) rfl).trans ?_
 rw [g2]
 simp [Tn, tri]
theorem Iz (nd : List Node) (nm : List UInt8) (k : Int → Option R) (hN : big ≤ N) (hl : nd.length < big) : vg N nd nm k = k (if idx (fun e : Node => e.Name == nm) (nd.drop 1) < 0 then -1 else idx (fun e : Node => e.Name == nm) (nd.drop 1) + 1) := by
 have hb : big = 1000000000 := rfl
 unfold vg
 have hdl : (nd.drop 1).length = nd.length - 1 := by simp
 refine search (l := nd.drop 1) (fun e : Node => e.Name == nm) (fun j => k (if j < 0 then -1 else j + 1)) (by omega) (fun n i => nU N nd nm (k (-1)) (fun y => k y) n (i + 1)) (fun n i e h0 h1 h2 h3 h4 => ?_) (fun n i h => ?_) N (by omega)
 ·have hi : nd[(i + 1).toNat]? = some e := by
   rw [List.getElem?_drop] at h4
   rw [show (i + 1).toNat = 1 + i.toNat by omega]; exact h4
  have hdc : decide (i + 1 < ((nd.length : Nat) : Int)) = true := by simp; omega
  simp only [nU, pS, hdc, bf (show 0 ≤ i + 1 by omega) hi, if_true, Option.bind_some]
  rw [wr (i + 1 + 1) (by omega) (by omega), wr (i + 1) (by omega) (by omega)]
  by_cases hn : (e.Name == nm) = true
  ·rw [if_pos hn, if_pos hn, if_neg (by omega)]
  ·rw [if_neg hn, if_neg hn]
 ·have hdc : decide (i + 1 < ((nd.length : Nat) : Int)) = false := by
   have := of_decide_eq_false h
   simp; omega
  simp only [nU, pS, hdc]
  simp
end
end So
