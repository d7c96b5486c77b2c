/- Loops in plain words: searches, folds. -/
import Derived.Test.YtcllbmdpckfnhaaGreatPL
import Derived.Test.YtcllbmdpckfnhaaGreatT38
set_option maxRecDepth 1000000
set_option linter.unusedVariables false
set_option linter.unusedSimpArgs false
namespace So
open Go TE Go.Proofs
def idx {E : Type} (p : E → Bool) : List E → Int
 | [] => -1
 | e :: r => if p e = true then 0 else if idx p r < 0 then -1 else idx p r + 1
theorem Ke {E : Type} (p : E → Bool) (l : List E) : -1 ≤ idx p l := by
 induction l with
 | nil => simp [idx]
 | cons e r ih => unfold idx; split <;> (try split) <;> omega
theorem OF {E : Type} (p : E → Bool) (l : List E) : idx p l < l.length := by
 induction l with
 | nil => simp [idx]
 | cons e r ih => unfold idx; simp only [List.length_cons]; split <;> (try split) <;> omega
theorem bj {E : Type} (p : E → Bool) (l : List E) : decide (idx p l ≥ 0) = l.any p := by
 induction l with
 | nil => simp [idx]
 | cons e r ih =>
  unfold idx
  have := Ke p r
  cases hp : p e with
  | true => simp [hp]
  | false =>
   simp only [hp, Bool.false_eq_true, if_false, List.any_cons, Bool.false_or, ← ih]
   split <;> simp <;> omega
theorem jY {E : Type} (p : E → Bool) (l : List E) : decide (idx p l < 0) = !l.any p := by
 rw [← bj]
 by_cases h : idx p l < 0
 ·have : ¬ idx p l ≥ 0 := by omega
  simp [h, this]
 ·have : idx p l ≥ 0 := by omega
  simp [h, this]
theorem Im {E : Type} {p : E → Bool} {l : List E} (h : l.any p = true) : ∃ e, at? l (idx p l) = some e ∧ p e = true ∧ l.find? p = some e := by
 induction l with
 | nil => simp at h
 | cons x r ih =>
  unfold idx
  cases hp : p x with
  | true => exact ⟨x, by simp [at?, hp], hp, by simp [hp]⟩
  | false =>
   have h' : r.any p = true := by simpa [hp] using h
   obtain ⟨e, h1, h2, h3⟩ := ih h'
   have hge : ¬ idx p r < 0 := by
    have := bj p r
    rw [h'] at this
    have := of_decide_eq_true this
    omega
   refine ⟨e, ?_, h2, by simp [hp, h3]⟩
   simp only [hp, Bool.false_eq_true, if_false, hge]
   unfold at? at h1 ⊢
   rw [if_neg hge] at h1
   rw [if_neg (by omega), show (idx p r + 1).toNat = (idx p r).toNat + 1 by omega]
   simpa using h1
def big : Nat := 1000000000
section
variable {E R : Type} {l : List E}
theorem LX {i : Int} (h0 : 0 ≤ i) (h1 : i < l.length) : ∃ e, at? l i = some e ∧ l[i.toNat]? = some e :=
 have h : i.toNat < l.length := by omega
 ⟨_, bf h0 (List.getElem?_eq_getElem h), List.getElem?_eq_getElem h⟩
theorem search (p : E → Bool) (K : Int → Option R) (hl : l.length < big) (G : Nat → Int → Option R)
  (hG : ∀ (n : Nat) (i : Int) e, 0 ≤ i → i < l.length → decide (i < ((l.length : Nat) : Int)) = true → at? l i = some e → l[i.toNat]? = some e → G (n + 1) i = if p e = true then K i else G n (IntKind.wrap .i64 (i + 1)))
  (h0 : ∀ (n : Nat) (i : Int), decide (i < ((l.length : Nat) : Int)) = false → G (n + 1) i = K (-1)) (N : Nat) (hN : l.length < N) : G N 0 = K (idx p l) := by
 have hb : big = 1000000000 := rfl
 have key : ∀ (r : List E) (i : Nat) (n : Nat), l.drop i = r → i ≤ l.length → l.length - i < n → G n i = K (if idx p r < 0 then -1 else idx p r + i) := by
  intro r
  induction r with
  | nil =>
   intro i n hr hi hn
   obtain ⟨n, rfl⟩ : ∃ m, n = m + 1 := ⟨n - 1, by omega⟩
   have : l.length ≤ i := List.drop_eq_nil_iff.1 hr
   rw [h0 n i (by simp; omega)]
   simp [idx]
  | cons e r ih =>
   intro i n hr hi hn
   obtain ⟨n, rfl⟩ : ∃ m, n = m + 1 := ⟨n - 1, by omega⟩
   have hlt : i < l.length := by
    refine Classical.byContradiction fun hc => ?_
    rw [List.drop_eq_nil_of_le (by omega)] at hr; cases hr
   have he : l[i]? = some e := by
    have := congrArg List.head? hr
    simpa [List.head?_drop] using this
   have hr' : l.drop (i + 1) = r := by
    have := congrArg List.tail hr
    simpa [List.tail_drop] using this
   rw [hG n i e (by omega) (by omega) (by simp; omega) (bf (by omega) (by simpa using he)) (by simpa using he)]
   unfold idx
   have hge := Ke p r
   split
   ·simp
   ·rw [wr _ (by omega) (by omega), show ((i : Int) + 1) = ((i + 1 : Nat) : Int) by omega, ih (i + 1) n hr' (by omega) (by omega)]
    congr 1
    split <;> simp <;> omega
 have := key l 0 N (by simp) (by omega) (by omega)
 rw [show ((0 : Nat) : Int) = 0 from rfl] at this
 rw [this]
 have hge := Ke p l
 congr 1
 split
 ·omega
 ·simp
def uq {A : Type} (f : List E → E → A → A) : List E → List E → A → A
 | _, [], a => a
 | pre, e :: r, a => uq f (pre ++ [e]) r (f pre e a)
theorem od {A : Type} (f : List E → E → A → A) (K : A → Option R) (hl : l.length < big) (G : Nat → Int → A → Option R)
  (hG : ∀ n (pre : List E) e rest a, l = pre ++ e :: rest → decide (((pre.length : Nat) : Int) < ((l.length : Nat) : Int)) = true → at? l pre.length = some e → G (n + 1) pre.length a = G n (IntKind.wrap .i64 (((pre.length : Nat) : Int) + 1)) (f pre e a))
  (h0 : ∀ n a, G (n + 1) l.length a = K a) : ∀ (rest pre : List E) (a : A) (n : Nat), l = pre ++ rest → rest.length < n → G n pre.length a = K (uq f pre rest a) := by
 have hb : big = 1000000000 := rfl
 intro rest
 induction rest with
 | nil =>
  intro pre a n h hn
  obtain ⟨n, rfl⟩ : ∃ m, n = m + 1 := ⟨n - 1, by omega⟩
  have : l = pre := by simpa using h
  subst this
  rw [h0]; rfl
 | cons e r ih =>
  intro pre a n h hn
  obtain ⟨n, rfl⟩ : ∃ m, n = m + 1 := ⟨n - 1, by omega⟩
  have hlen : l.length = pre.length + (r.length + 1) := by rw [h]; simp
  rw [hG n pre e r a h (by simp; omega) (bf (by omega) (by rw [h]; simp))]
  rw [wr _ (by omega) (by omega), show ((pre.length : Int) + 1) = ((pre ++ [e]).length : Int) by simp, ih (pre ++ [e]) _ n (by rw [h]; simp) (by simp at hn; omega)]
  rfl
abbrev Flt := Int × Int
def zq {A : Type} (f : List E → E → A → Flt × A) : List E → List E → A → Flt × A
 | _, [], a => ((0, 0), a)
 | pre, e :: r, a => if (f pre e a).1.1 = 0 then zq f (pre ++ [e]) r (f pre e a).2 else f pre e a
theorem Uw {A : Type} (f : List E → E → A → Flt × A) (Inv : List E → A → Prop) (K0 : A → Option R) (K1 : Flt → A → Option R) (hl : l.length < big) (G : Nat → Int → A → Option R)
  (hG : ∀ n (pre : List E) e rest a, l = pre ++ e :: rest → Inv pre a → decide (((pre.length : Nat) : Int) < ((l.length : Nat) : Int)) = true → at? l pre.length = some e →
   G (n + 1) pre.length a = (if (f pre e a).1.1 = 0 then G n (IntKind.wrap .i64 (((pre.length : Nat) : Int) + 1)) (f pre e a).2 else K1 (f pre e a).1 (f pre e a).2) ∧ ((f pre e a).1.1 = 0 → Inv (pre ++ [e]) (f pre e a).2))
  (h0 : ∀ n a, decide (((l.length : Nat) : Int) < ((l.length : Nat) : Int)) = false → Inv l a → G (n + 1) l.length a = K0 a) : ∀ (rest pre : List E) (a : A) (n : Nat), l = pre ++ rest → Inv pre a → rest.length < n → G n pre.length a = (if (zq f pre rest a).1.1 = 0 then K0 (zq f pre rest a).2 else K1 (zq f pre rest a).1 (zq f pre rest a).2) ∧ ((zq f pre rest a).1.1 = 0 → Inv l (zq f pre rest a).2) := by
 have hb : big = 1000000000 := rfl
 intro rest
 induction rest with
 | nil =>
  intro pre a n h hi hn
  obtain ⟨n, rfl⟩ : ∃ m, n = m + 1 := ⟨n - 1, by omega⟩
  have : l = pre := by simpa using h
  subst this
  rw [h0 _ _ (by simp) hi]
  exact ⟨rfl, fun _ => hi⟩
 | cons e r ih =>
  intro pre a n h hi hn
  obtain ⟨n, rfl⟩ : ∃ m, n = m + 1 := ⟨n - 1, by omega⟩
  have hlen : l.length = pre.length + (r.length + 1) := by rw [h]; simp
  obtain ⟨h1, h2⟩ := hG n pre e r a h hi (by simp; omega) (bf (by omega) (by rw [h]; simp))
  rw [h1]
  unfold zq
  by_cases hc : (f pre e a).1.1 = 0
  ·rw [if_pos hc, if_pos hc]
   rw [wr _ (by omega) (by omega), show ((pre.length : Int) + 1) = ((pre ++ [e]).length : Int) by simp]
   exact ih (pre ++ [e]) _ n (by rw [h]; simp) (h2 hc) (by simp at hn; omega)
  ·rw [if_neg hc, if_neg hc, if_neg hc]
   exact ⟨rfl, fun h => absurd h hc⟩
end
def orF (a b : Flt) : Flt := if a.1 = 0 ∧ b.1 ≠ 0 then b else a
def oZ (a b : Flt) : Flt := if a.1 = 0 then b else a
def chk (b : Bool) (c a : Int) : Flt := if b = true then (0, 0) else (c, a)
def Nf (a : Flt) : Prop := a.1 = 0 → a = (0, 0)
theorem aO (a b c : Flt) : orF (orF a b) c = orF a (orF b c) := by
 unfold orF
 by_cases ha : a.1 = 0 <;> by_cases hb : b.1 = 0 <;> by_cases hc : c.1 = 0 <;> simp [ha, hb, hc]
theorem mF (a : Flt) : orF a (0, 0) = a := by simp [orF]
theorem aG {a : Flt} (h : Nf a) : orF (0, 0) a = a := by
 unfold orF
 by_cases ha : a.1 = 0
 ·simp [ha, h ha]
 ·simp [ha]
theorem aL {a : Flt} (b : Flt) (h : a.1 ≠ 0) : orF a b = a := by simp [orF, h]
theorem ur {a b : Flt} (ha : Nf a) (hb : Nf b) : orF a b = oZ a b := by
 unfold orF oZ
 by_cases h : a.1 = 0
 ·by_cases h' : b.1 = 0
  ·simp [h, h', ha h, hb h']
  ·simp [h, h']
 ·simp [h]
theorem aK (b : Bool) {c : Int} (a : Int) (hc : c ≠ 0) : Nf (chk b c a) := by
 unfold Nf chk
 split <;> simp [hc]
theorem sY : Nf (0, 0) := fun _ => rfl
theorem ao {a b : Flt} (ha : Nf a) (hb : Nf b) : Nf (orF a b) := by
 unfold orF
 split
 ·exact hb
 ·exact ha
theorem cz {a b : Flt} : (orF a b).1 = 0 ↔ a.1 = 0 ∧ b.1 = 0 := by
 unfold orF
 split
 ·rename_i h; simp [h.1, h.2]
 ·rename_i h
  constructor
  ·intro h'; exact ⟨h', by simpa [h'] using h⟩
  ·exact fun h => h.1
theorem sZ {b : Bool} {c a : Int} (hc : c ≠ 0) : (chk b c a).1 = 0 ↔ b = true := by
 unfold chk
 split <;> simp_all
def kf {R : Type} (k : Int → Int → Option R) (f : Flt) : Option R := k f.1 f.2
section
variable {R : Type} {N : Nat}
theorem bo (b : Bool) {c : Int} (a A : Int) (Cs : List Chart) (Is : List Inst) (Hs : List ai) (Es : List Cert) (C At : Int) (k : Int → Int → Option R) (hc : c ≠ 0) : ae N b c a A Cs Is Hs Es C At k = kf k (orF (C, At) (chk b c a)) := by
 unfold ae kf orF chk
 simp only [ax, Option.bind_some]
 by_cases h : C = 0 <;> cases b <;> simp [h, hc]
theorem uu (n l m : Int) (k : Bool → Option R) : dj N n l m k = k (decide (n ≥ l) && decide (n ≤ m)) := by
 unfold dj
 simp only [ax, Option.bind_some]
def isH (s : State) : Bool := s.Kind == 3 || s.Kind == 4
theorem yA (s : State) (k : Bool → Option R) : dF N s.Kind s.Name s.Entry s.Exit s.Trans s.Kids s.At k = k (isH s) := by
 unfold dF isH
 simp only [aZ, Option.bind_some]
theorem Kf (s : State) (k : Bool → Option R) : ot N s.Kind s.Name s.Entry s.Exit s.Trans s.Kids s.At k = k (!isH s) := by
 unfold ot
 rw [yA]
def isS (s : State) : Bool := s.Kind == 1 || s.Kind == 2
theorem pf (s : State) (k : Bool → Option R) : iG N s.Kind s.Name s.Entry s.Exit s.Trans s.Kids s.At k = k (isS s) := by
 unfold iG isS
 simp only [aZ, Option.bind_some]
theorem MO (x y : ai) (k : Bool → Option R) : fF N x.Name x.From x.Port x.To x.Cap x.Prio x.At y.Name y.From y.Port y.To y.Cap y.Prio y.At k = k (x.From == y.From && x.Port == y.Port) := by
 unfold fF
 simp only [ax, Option.bind_some]
theorem MP (x : ai) (y : Inst) (p : af) (k : Bool → Option R) : gq N x.Name x.From x.Port x.To x.Cap x.Prio x.At y.Name y.Chart y.Quantum y.Ext y.Prio y.At p.Name p.N p.At k = k (x.From == y.Name && x.Port == p.Name) := by
 unfold gq
 simp only [ax, Option.bind_some]
theorem zz (s : List Chart) (f : List UInt8) (k : Int → Option R) (hN : big ≤ N) (hl : s.length < big) : gj N s f k = k (idx (fun e => e.Name == f) s) := by
 unfold gj
 refine search (fun e => e.Name == f) k hl (fun n i => bY N s ((s.length : Nat) : Int) f (k (-1)) (fun y => k y) n i) (fun n i e h0 h1 h2 h3 h4 => ?_) (fun n i h => ?_) N (by omega)
 ·simp only [bY, dA, h2, h3, h4, h0, h1, if_true, Option.bind_some, ax, aZ, ge_iff_le, decide_true, and_self]
 ·simp only [bY, dA, h]
  rfl
theorem pg (s : List af) (f : List UInt8) (k : Int → Option R) (hN : big ≤ N) (hl : s.length < big) : gn N s f k = k (idx (fun e => e.Name == f) s) := by
 unfold gn
 refine search (fun e => e.Name == f) k hl (fun n i => ca N s ((s.length : Nat) : Int) f (k (-1)) (fun y => k y) n i) (fun n i e h0 h1 h2 h3 h4 => ?_) (fun n i h => ?_) N (by omega)
 ·simp only [ca, dC, h2, h3, h4, h0, h1, if_true, Option.bind_some, ax, aZ, ge_iff_le, decide_true, and_self]
 ·simp only [ca, dC, h]
  rfl
theorem Gr (s : List Inst) (f : List UInt8) (k : Int → Option R) (hN : big ≤ N) (hl : s.length < big) : gW N s f k = k (idx (fun e => e.Name == f) s) := by
 unfold gW
 refine search (fun e => e.Name == f) k hl (fun n i => cf N s ((s.length : Nat) : Int) f (k (-1)) (fun y => k y) n i) (fun n i e h0 h1 h2 h3 h4 => ?_) (fun n i h => ?_) N (by omega)
 ·simp only [cf, dQ, h2, h3, h4, h0, h1, if_true, Option.bind_some, ax, aZ, ge_iff_le, decide_true, and_self]
 ·simp only [cf, dQ, h]
  rfl
theorem BV (s : List ai) (f : List UInt8) (k : Int → Option R) (hN : big ≤ N) (hl : s.length < big) : gX N s f k = k (idx (fun e => e.Name == f) s) := by
 unfold gX
 refine search (fun e => e.Name == f) k hl (fun n i => cg N s ((s.length : Nat) : Int) f (k (-1)) (fun y => k y) n i) (fun n i e h0 h1 h2 h3 h4 => ?_) (fun n i h => ?_) N (by omega)
 ·simp only [cg, dR, h2, h3, h4, h0, h1, if_true, Option.bind_some, ax, aZ, ge_iff_le, decide_true, and_self]
 ·simp only [cg, dR, h]
  rfl
theorem MQ (s : List Cert) (f : List UInt8) (k : Int → Option R) (hN : big ≤ N) (hl : s.length < big) : gZ N s f k = k (idx (fun e => e.Name == f) s) := by
 unfold gZ
 refine search (fun e => e.Name == f) k hl (fun n i => cj N s ((s.length : Nat) : Int) f (k (-1)) (fun y => k y) n i) (fun n i e h0 h1 h2 h3 h4 => ?_) (fun n i h => ?_) N (by omega)
 ·simp only [cj, dV, h2, h3, h4, h0, h1, if_true, Option.bind_some, ax, aZ, ge_iff_le, decide_true, and_self]
 ·simp only [cj, dV, h]
  rfl
theorem Kg (s : List State) (k : Int → Option R) (hN : big ≤ N) (hl : s.length < big) : gl N s k = k (idx (fun e => !isH e) s) := by
 unfold gl
 refine search (fun e => !isH e) k hl (fun n i => bZ N s ((s.length : Nat) : Int) (k (-1)) (fun y => k y) n i) (fun n i e h0 h1 h2 h3 h4 => ?_) (fun n i h => ?_) N (by omega)
 ·simp only [bZ, dB, h2, h3, h4, h0, h1, if_true, Option.bind_some, ax, aZ, ge_iff_le, decide_true, and_self, Kf]
 ·simp only [bZ, dB, h]
  rfl
theorem xg (s : List State) (f : List UInt8) (k : Int → Option R) (hN : big ≤ N) (hl : s.length < big) : eM N s f k = k (idx (fun e => e.Name == f) s) := by
 unfold eM
 refine search (fun e => e.Name == f) k hl (fun n i => bJ N ((s.length : Nat) : Int) s f (k (-1)) (fun y => k y) n i) (fun n i e h0 h1 h2 h3 h4 => ?_) (fun n i h => ?_) N (by omega)
 ·simp only [bJ, cQ, h2, h3, h4, h0, h1, if_true, Option.bind_some, ax, aZ, ge_iff_le, decide_true, and_self]
 ·simp only [bJ, cQ, h]
  rfl
theorem Io (s : List State) (k : Int → Option R) (hN : big ≤ N) (hl : s.length < big) : eS N s k = k (idx isH s) := by
 unfold eS
 refine search isH k hl (fun n i => bK N s ((s.length : Nat) : Int) (k (-1)) (fun y => k y) n i) (fun n i e h0 h1 h2 h3 h4 => ?_) (fun n i h => ?_) N (by omega)
 ·simp only [bK, cT, h2, h3, h4, h0, h1, if_true, Option.bind_some, ax, aZ, ge_iff_le, decide_true, and_self, yA]
 ·simp only [bK, cT, h]
  rfl
theorem Ip (s : List State) (f : List UInt8) (k : Int → Option R) (hN : big ≤ N) (hl : s.length < big) : eT N s f k = k (idx (fun e => e.Name == f) s) := by
 unfold eT
 refine search (fun e => e.Name == f) k hl (fun n i => bL N s ((s.length : Nat) : Int) f (k (-1)) (fun y => k y) n i) (fun n i e h0 h1 h2 h3 h4 => ?_) (fun n i h => ?_) N (by omega)
 ·simp only [bL, cU, h2, h3, h4, h0, h1, if_true, Option.bind_some, ax, aZ, ge_iff_le, decide_true, and_self]
 ·simp only [bL, cU, h]
  rfl
theorem Kh (s : List ai) (y : ai) (k : Int → Option R) (hN : big ≤ N) (hl : s.length < big) : fG N s y.Name y.From y.Port y.To y.Cap y.Prio y.At k = k (idx (fun x => x.From == y.From && x.Port == y.Port) s) := by
 unfold fG
 refine search (fun x => x.From == y.From && x.Port == y.Port) k hl (fun n i => bT N s ((s.length : Nat) : Int) y.Name y.From y.Port y.To y.Cap y.Prio y.At (k (-1)) (fun y => k y) n i) (fun n i e h0 h1 h2 h3 h4 => ?_) (fun n i h => ?_) N (by omega)
 ·simp only [bT, dk, h2, h3, h4, h0, h1, if_true, Option.bind_some, ax, aZ, ge_iff_le, decide_true, and_self, MO]
 ·simp only [bT, dk, h]
  rfl
theorem Ki (s : List ai) (y : Inst) (p : af) (k : Int → Option R) (hN : big ≤ N) (hl : s.length < big) : fH N s y.Name y.Chart y.Quantum y.Ext y.Prio y.At p.Name p.N p.At k = k (idx (fun x => x.From == y.Name && x.Port == p.Name) s) := by
 unfold fH
 refine search (fun x => x.From == y.Name && x.Port == p.Name) k hl (fun n i => bU N s ((s.length : Nat) : Int) y.Name y.Chart y.Quantum y.Ext y.Prio y.At p.Name p.N p.At (k (-1)) (fun y => k y) n i) (fun n i e h0 h1 h2 h3 h4 => ?_) (fun n i h => ?_) N (by omega)
 ·simp only [bU, dm, h2, h3, h4, h0, h1, if_true, Option.bind_some, ax, aZ, ge_iff_le, decide_true, and_self, MP]
 ·simp only [bU, dm, h]
  rfl
theorem OG (s : List (List UInt8)) (v : List UInt8) (k : Int → Option R) (hN : big ≤ N) (hl : s.length < big) : ja N s v k = k (idx (fun e => v == e) s) := by
 unfold ja
 refine search (fun e => v == e) k hl (fun n i => cI N s v ((s.length : Nat) : Int) (k (-1)) (fun y => k y) n i) (fun n i e h0 h1 h2 h3 h4 => ?_) (fun n i h => ?_) N (by omega)
 ·simp only [cI, eR, h2, h3, h4, h0, h1, if_true, Option.bind_some, ax, aZ, ge_iff_le, decide_true, and_self]
 ·simp only [cI, eR, h]
  rfl
theorem zA (l : List State) (k : Bool → Option R) (hN : big ≤ N) (hl : l.length < big) : oB N l k = k (l.any isS) := by
 unfold oB
 rw [← bj]
 refine search isS (fun j => k (decide (j ≥ 0))) hl (fun n i => nP N l (k false) (fun y => k y) n i) (fun n i e h0 h1 h2 h3 h4 => ?_) (fun n i h => ?_) N (by omega)
 ·simp only [nP, pN, h2, h3, h4, h0, h1, if_true, Option.bind_some, ax, aZ, ge_iff_le, decide_true, and_self, pf]
 ·simp only [nP, pN, h]
  simp
theorem eh (l : List (List UInt8)) (s : List UInt8) (k : Bool → Option R) (hN : big ≤ N) (hl : l.length < big) : eW N l s k = k (l.any (fun e => e == s)) := by
 unfold eW
 rw [← bj]
 refine search (fun e => e == s) (fun j => k (decide (j ≥ 0))) hl (fun n i => pA N l s (k false) (fun y => k y) n i) (fun n i e h0 h1 h2 h3 h4 => ?_) (fun n i h => ?_) N (by omega)
 ·simp only [pA, rj, h2, h3, h4, h0, h1, if_true, Option.bind_some, ax, aZ, ge_iff_le, decide_true, and_self]
 ·simp only [pA, rj, h]
  simp
theorem vz (A : Int) (Cs : List Chart) (Is : List Inst) (Hs : List ai) (Es : List Cert) (s : List UInt8) (k : Int → Option R) (hN : big ≤ N) (hl : Is.length < big) : qy N A Cs Is Hs Es s k = k (idx (fun e => e.Name == s) Is) := by
 unfold qy
 refine search (fun e => e.Name == s) k hl (fun n i => nQ N s A Cs Is Hs Es (k (-1)) (fun y => k y) n i) (fun n i e h0 h1 h2 h3 h4 => ?_) (fun n i h => ?_) N (by omega)
 ·simp only [nQ, pO, h2, h3, h4, h0, h1, if_true, Option.bind_some, ax, aZ, ge_iff_le, decide_true, and_self]
 ·simp only [nQ, pO, h]
  rfl
theorem CH (A : Int) (Cs : List Chart) (Is : List Inst) (Hs : List ai) (Es : List Cert) (s : List UInt8) (k : Int → Option R) (hN : big ≤ N) (hl : Cs.length < big) : uW N A Cs Is Hs Es s k = k (idx (fun e => e.Name == s) Cs) := by
 unfold uW
 refine search (fun e => e.Name == s) k hl (fun n i => lW N s A Cs Is Hs Es (k (-1)) (fun y => k y) n i) (fun n i e h0 h1 h2 h3 h4 => ?_) (fun n i h => ?_) N (by omega)
 ·simp only [lW, oG, h2, h3, h4, h0, h1, if_true, Option.bind_some, ax, aZ, ge_iff_le, decide_true, and_self]
 ·simp only [lW, oG, h]
  rfl
theorem zB (A : Int) (Cs : List Chart) (Is : List Inst) (Hs : List ai) (Es : List Cert) (s : List UInt8) (k : Int → Option R) (hN : big ≤ N) (hl : Hs.length < big) : uY N A Cs Is Hs Es s k = k (idx (fun e => e.Name == s) Hs) := by
 unfold uY
 refine search (fun e => e.Name == s) k hl (fun n i => nR N s A Cs Is Hs Es (k (-1)) (fun y => k y) n i) (fun n i e h0 h1 h2 h3 h4 => ?_) (fun n i h => ?_) N (by omega)
 ·simp only [nR, pP, h2, h3, h4, h0, h1, if_true, Option.bind_some, ax, aZ, ge_iff_le, decide_true, and_self]
 ·simp only [nR, pP, h]
  rfl
theorem xh (l : List Int) (q : Int) (k : Bool → Option R) (hN : big ≤ N) (hl : l.length < big) : sB N l q k = k (l.any (fun e => e == q)) := by
 unfold sB
 rw [← bj]
 refine search (fun e => e == q) (fun j => k (decide (j ≥ 0))) hl (fun n i => rA N l q (k false) (fun y => k y) n i) (fun n i e h0 h1 h2 h3 h4 => ?_) (fun n i h => ?_) N (by omega)
 ·simp only [rA, tF, h2, h3, h4, h0, h1, if_true, Option.bind_some, ax, aZ, ge_iff_le, decide_true, and_self]
 ·simp only [rA, tF, h]
  simp
theorem DU (s : List State) (k : Bool → Option R) (hN : big ≤ N) (hl : s.length < big) : iD N s k = k (s.any fun e => !isH e) := by
 unfold iD hU
 rw [Kg _ _ hN hl, bj]
theorem OH (s : List State) (k : Bool → Option R) (hN : big ≤ N) (hl : s.length < big) : dD N s k = k (s.any isH) := by
 unfold dD
 rw [Io _ _ hN hl, bj]
theorem OI (s : List ai) (y : ai) (k : Bool → Option R) (hN : big ≤ N) (hl : s.length < big) : eQ N s y.Name y.From y.Port y.To y.Cap y.Prio y.At k = k (s.any fun x => x.From == y.From && x.Port == y.Port) := by
 unfold eQ
 rw [Kh _ _ _ hN hl, bj]
theorem OJ (s : List ai) (y : Inst) (p : af) (k : Bool → Option R) (hN : big ≤ N) (hl : s.length < big) : dU N s y.Name y.Chart y.Quantum y.Ext y.Prio y.At p.Name p.N p.At k = k (s.any fun x => x.From == y.Name && x.Port == p.Name) := by
 unfold dU
 rw [Ki _ _ _ _ hN hl, bj]
theorem uv (s : List (List UInt8)) (v : List UInt8) (k : Bool → Option R) (hN : big ≤ N) (hl : s.length < big) : bq N s v k = k (s.any fun e => v == e) := by
 unfold bq
 rw [OG _ _ _ hN hl]
 simp only [bj]
theorem Kj (l : List Chart) (c : Chart) (k : Bool → Option R) (hN : big ≤ N) (hl : l.length < big) : kM N l c.Name c.Steps c.Fuel c.Vars c.Ports c.Timers c.States c.At k = k (l.any fun e => e.Name == c.Name) := by
 unfold kM eK
 rw [zz _ _ _ hN hl]
 simp only [bj]
theorem Kk (l : List af) (c : af) (k : Bool → Option R) (hN : big ≤ N) (hl : l.length < big) : kN N l c.Name c.N c.At k = k (l.any fun e => e.Name == c.Name) := by
 unfold kN bE
 rw [pg _ _ _ hN hl]
 simp only [bj]
theorem MR (l : List Inst) (c : Inst) (k : Bool → Option R) (hN : big ≤ N) (hl : l.length < big) : lI N l c.Name c.Chart c.Quantum c.Ext c.Prio c.At k = k (l.any fun e => e.Name == c.Name) := by
 unfold lI kj
 rw [Gr _ _ _ hN hl]
 simp only [bj]
theorem MS (l : List ai) (c : ai) (k : Bool → Option R) (hN : big ≤ N) (hl : l.length < big) : lJ N l c.Name c.From c.Port c.To c.Cap c.Prio c.At k = k (l.any fun e => e.Name == c.Name) := by
 unfold lJ fQ
 rw [BV _ _ _ hN hl]
 simp only [bj]
theorem MT (l : List Cert) (c : Cert) (k : Bool → Option R) (hN : big ≤ N) (hl : l.length < big) : lK N l c.Name c.Inst c.Req c.Resp c.Insts c.Chans c.Cells c.At k = k (l.any fun e => e.Name == c.Name) := by
 unfold lK qJ
 rw [MQ _ _ _ hN hl]
 simp only [bj]
theorem DV (l : List State) (c : State) (k : Bool → Option R) (hN : big ≤ N) (hl : l.length < big) : ga N c.Kind c.Name c.Entry c.Exit c.Trans c.Kids c.At l k = k (l.any fun e => e.Name == c.Name) := by
 unfold ga dv
 rw [xg _ _ _ hN hl]
 simp only [bj]
end
def gP {E : Type} (g : List E → E → Flt) : List E → List E → Flt
 | _, [] => (0, 0)
 | pre, e :: r => orF (g pre e) (gP g (pre ++ [e]) r)
theorem km {E : Type} (g : List E → E → Flt) : ∀ (r pre : List E) (a : Flt), uq (fun pre e a => orF a (g pre e)) pre r a = orF a (gP g pre r) := by
 intro r
 induction r with
 | nil => intro pre a; simp only [uq, gP]; rw [mF]
 | cons e r ih => intro pre a; simp only [uq, gP, ih]; rw [aO]
theorem fv {E : Type} {g : List E → E → Flt} (h : ∀ pre e, Nf (g pre e)) : ∀ (r pre : List E), Nf (gP g pre r) := by
 intro r
 induction r with
 | nil => intro pre; exact sY
 | cons e r ih => intro pre; exact ao (h pre e) (ih _)
theorem OK {E : Type} {g : List E → E → Flt} (h : ∀ pre e, Nf (g pre e)) : ∀ (r pre : List E), (zq (fun pre e (_ : Unit) => (g pre e, ())) pre r ()).1 = gP g pre r := by
 intro r
 induction r with
 | nil => intro pre; rfl
 | cons e r ih =>
  intro pre
  simp only [zq, gP]
  rw [ur (h pre e) (fv h _ _)]
  unfold oZ
  split
  ·exact ih _
  ·rfl
structure Pr where
 v : List UInt8 → Bool
 p : List UInt8 → Bool
 t : List UInt8 → Bool
 q : List UInt8 → Bool
 g : List UInt8 → Bool
mutual
def exF (P : Pr) : Expr → Flt
 | ⟨K, _, s, kids, a⟩ => orF (chk (if K = 2 then P.v s else if K = 4 then P.q s else true) 7 a) (uw P kids)
def uw (P : Pr) : List Expr → Flt
 | [] => (0, 0)
 | e :: r => orF (exF P e) (uw P r)
end
def there (P : Pr) (K : Int) (s : List UInt8) : Bool := if K = 1 then P.v s else if K = 3 then P.p s else if K = 4 ∨ K = 5 then P.t s else true
mutual
def acF (P : Pr) : Act → Flt
 | ⟨K, s, _, x, n, t, e, a⟩ => orF (chk (there P K s) 7 a) (orF (chk (K != 7 || (decide (n ≥ 1) && decide (n ≤ 16))) 16 a) (orF (uw P x) (orF (kA P t) (kA P e))))
def kA (P : Pr) : List Act → Flt
 | [] => (0, 0)
 | e :: r => orF (acF P e) (kA P r)
end
def trF (P : Pr) (n : Int) (t : Trans) : Flt := orF (chk (decide (n ≤ 96)) 15 t.At) (orF (chk (t.Target == [] || P.g t.Target) 7 t.At) (orF (uw P t.Guard) (kA P t.Acts)))
def yS (P : Pr) : Int → List Trans → Flt
 | _, [] => (0, 0)
 | n, t :: r => orF (trF P (n + 1) t) (yS P (n + 1) r)
def inF (P : Pr) : Int → List State → Flt
 | _, [] => (0, 0)
 | n, s :: r => if isH s = true then inF P n r else orF (kA P s.Entry) (orF (kA P s.Exit) (orF (yS P n s.Trans) (inF P (n + s.Trans.length) r)))
mutual
def flS : State → List State
 | ⟨k, n, en, ex, tr, kids, a⟩ => ⟨k, n, en, ex, tr, kids, a⟩ :: flL kids
def flL : List State → List State
 | [] => []
 | s :: r => flS s ++ flL r
end
def BW (top : Bool) (s : State) : Bool := (top && isH s) || (s.Kind == 2 && !s.Kids.any fun e => !isH e) || (decide (((s.Kids.length : Nat) : Int) > 0) && !s.Kids.any fun e => !isH e)
def iq (top : Bool) (out : List State) (s : State) : Flt := orF (chk (decide (((out.length : Nat) : Int) < 63)) 15 s.At) (orF (chk (!out.any fun e => e.Name == s.Name) 8 s.At) (chk (!BW top s) 17 s.At))
mutual
def tr1 (top : Bool) (out : List State) : State → Flt
 | ⟨k, n, en, ex, tr, kids, a⟩ => orF (iq top out ⟨k, n, en, ex, tr, kids, a⟩) (trL false (out ++ [⟨k, n, en, ex, tr, kids, a⟩]) kids)
def trL (top : Bool) (out : List State) : List State → Flt
 | [] => (0, 0)
 | s :: r => orF (tr1 top out s) (trL top (out ++ flS s) r)
end
def mo (most : Int) (pre : List af) (e : af) : Flt := orF (chk (decide (((pre.length : Nat) : Int) < most)) 15 e.At) (chk (!pre.any fun x => x.Name == e.Name) 8 e.At)
def CI (l : List State) (s : List UInt8) : Bool := match l.find? (fun e => e.Name == s) with
 | some e => !isH e
 | none => false
def oa (c : Chart) (l : List State) : Pr := ⟨fun s => c.Vars.any fun e => e.Name == s, fun s => c.Ports.any fun e => e.Name == s, fun s => c.Timers.any fun e => e.Name == s, CI l, fun s => l.any fun e => e.Name == s⟩
def xi (c : Chart) : Flt := orF (chk (decide (c.Steps ≥ 2) && decide (c.Steps ≤ 16) && (decide (c.Fuel ≥ 1) && decide (c.Fuel ≤ 4096))) 16 c.At) (orF (chk (c.States.any fun e => !isH e) 7 c.At) (orF (gP (mo 8) [] c.Vars) (orF (gP (mo 6) [] c.Ports) (gP (mo 6) [] c.Timers))))
def chF (c : Chart) : Flt := orF (xi c) (orF (trL true [] c.States) (inF (oa c (flL c.States)) 0 (flL c.States)))
theorem bc {R : Type} (k : Int → Int → Option R) (f : Flt) : kf k f = k f.1 f.2 := rfl
section
variable {R : Type} {N : Nat}
theorem jZ {α : Type} {l pre r : List α} (h : l = pre ++ r) : (l.take ((pre.length : Nat) : Int).toNat).drop (Int.toNat 0) = pre := by
 subst h; simp
theorem g01 {l : Nat} {i : Nat} (h : i ≤ l) : (0 : Int) ≤ 0 ∧ 0 ≤ ((i : Nat) : Int) ∧ ((i : Nat) : Int) ≤ ((l : Nat) : Int) := ⟨by omega, by omega, by omega⟩
theorem DW (l : List af) (most : Int) (A : Int) (Cs : List Chart) (Is : List Inst) (Hs : List ai) (Es : List Cert) (C At : Int) (k : Int → Int → Option R) (hN : big ≤ N) (hl : l.length < big) :
  er N l most A Cs Is Hs Es C At k = kf k (orF (C, At) (gP (mo most) [] l)) := by
 unfold er
 have := od (fun pre e a => orF a (mo most pre e)) (kf k) hl (fun n i (a : Flt) => cF N l most l ((l.length : Nat) : Int) A Cs Is Hs Es (fun y z => k y z) n i a.1 a.2) (fun n pre e rest a h h1 h2 => ?_) (fun n a => ?_) l [] (C, At) N rfl (by omega)
 ·rw [km] at this
  exact this
 ·have hp : pre.length ≤ l.length := by rw [h]; simp
  simp only [cF, eL, h1, h2, if_true, Option.bind_some]
  rw [bo _ _ _ _ _ _ _ _ _ _ (by decide), bc, if_pos (g01 hp), jZ h, Kk _ _ _ hN (by omega), bo _ _ _ _ _ _ _ _ _ _ (by decide), bc]
  unfold mo
  rw [← aO]
 ·simp only [cF, eL]
  simp [kf]
theorem DG (e : Expr) : 1 ≤ szE e := by cases e; rw [qG]; have := dH ‹List Expr›; omega
theorem xj : ∀ l : List Expr, (l.length : Int) ≤ iT l
 | [] => by simp [iT]
 | e :: r => by have := xj r; have := DG e; simp only [List.length_cons, iT]; omega
theorem xk : ∀ {l : List Expr} {e : Expr}, e ∈ l → szE e ≤ iT l
 | x :: r, e, h => by
  simp only [iT]
  rcases List.mem_cons.1 h with rfl | h
  ·have := dH r; omega
  ·have := xk h; have := DG x; omega
theorem BX (P : Pr) : ∀ (l pre : List Expr) (a : Flt), uq (fun _ e a => orF a (exF P e)) pre l a = orF a (uw P l) := by
 intro l
 induction l with
 | nil => intro pre a; simp only [uq, uw]; rw [mF]
 | cons e r ih => intro pre a; simp only [uq, uw, ih]; rw [aO]
theorem Ru (l : List State) (s : List UInt8) :
  (ifB (decide (idx (fun e => e.Name == s) l ≥ 0)) true (if (0 : Int) ≤ (if (0 > idx (fun e => e.Name == s) l) then 0 else idx (fun e => e.Name == s) l) ∧ (if (0 > idx (fun e => e.Name == s) l) then 0 else idx (fun e => e.Name == s) l) < (l.length : Int) then (match l[(if (0 > idx (fun e => e.Name == s) l) then 0 else idx (fun e => e.Name == s) l).toNat]? with
    | some e52 => (dF N e52.Kind e52.Name e52.Entry e52.Exit e52.Trans e52.Kids e52.At (fun (r53 : Bool) =>
     some (!r53)))
    | none => none) else none) (some false)) = some (CI l s) := by
 unfold CI
 cases h : l.any (fun e => e.Name == s) with
 | true =>
  obtain ⟨e, h1, h2, h3⟩ := Im h
  have hge : idx (fun e => e.Name == s) l ≥ 0 := by
   have := bj (fun e : State => e.Name == s) l
   rw [h] at this
   exact of_decide_eq_true this
  have hlt := OF (fun e : State => e.Name == s) l
  have hn : ¬ (0 > idx (fun e => e.Name == s) l) := by omega
  have hg : l[(idx (fun e => e.Name == s) l).toNat]? = some e := by
   unfold at? at h1
   rwa [if_neg (by omega)] at h1
  simp only [hn, if_false]
  rw [if_pos ⟨by omega, hlt⟩, hg, h3]
  simp only [yA]
  simp [hge, ifB]
 | false =>
  have hlt : ¬ idx (fun e => e.Name == s) l ≥ 0 := by
   have := bj (fun e : State => e.Name == s) l
   rw [h] at this
   exact of_decide_eq_false this
  have hf : l.find? (fun e => e.Name == s) = none := by
   rw [List.find?_eq_none]
   intro x hx hc
   have := List.any_eq_false.1 h x hx
   exact this hc
  rw [hf]
  simp [hlt, ifB]
theorem Rv (c : Chart) (l : List State) (A : Int) (Cs : List Chart) (Is : List Inst) (Hs : List ai) (Es : List Cert) (hN : big ≤ N) (hc : (c.Vars.length : Int) ≤ 16385) (hl : l.length < big) : ∀ (d : Nat) (R : Type) (e : Expr) (C At : Int) (k : Int → Int → Option R), szE e < d → szE e < big →
  (aX N d).sound_checker_expr R c.Name c.Steps c.Fuel c.Vars c.Ports c.Timers c.States c.At e.Kind e.N e.Name e.Kids e.At A Cs Is Hs Es C At l k = kf k (orF (C, At) (exF (oa c l) e)) := by
 have hb : big = 1000000000 := rfl
 intro d
 induction d with
 | zero => intro R e C At k h; have := DG e; omega
 | succ d ih =>
  intro R e C At k hd hs
  obtain ⟨K, n, s, kids, a⟩ := e
  rw [qG] at hd hs
  have hk := xj kids
  rw [wQ]
  unfold ff
  have c7 : ∀ (C At : Int), cW (aX N d) N A Cs Is Hs Es C At l c.Name c.Steps c.Fuel c.Vars c.Ports c.Timers c.States c.At K n s kids a (fun y z => k y z) = kf k (orF (C, At) (uw (oa c l) kids)) := by
   intro C At
   unfold cW
   have := od (fun pre e a => orF a (exF (oa c l) e)) (kf k) (l := kids) (by omega) (fun n i (a : Flt) => cV (aX N d) N kids ((kids.length : Nat) : Int) A Cs Is Hs Es l c.Name c.Steps c.Fuel c.Vars c.Ports c.Timers c.States c.At (fun y z => k y z) n i a.1 a.2) (fun n pre e rest a h h1 h2 => ?_) (fun n a => ?_) kids [] (C, At) N rfl (by omega)
   ·rw [BX] at this
    exact this
   ·have he : e ∈ kids := by rw [h]; simp
    have := xk he
    simp only [cV, fB, h1, h2, if_true, Option.bind_some]
    rw [ih _ _ _ _ _ (by omega) (by omega), bc]
   ·simp only [cV, fB]
    simp [kf]
  simp only [exF]
  rw [← aO]
  by_cases h2 : K = 2
  ·have h2' : (K == 2) = true := by simp [h2]
   rw [if_pos h2', if_pos h2]
   unfold bE
   rw [pg _ _ _ hN (by omega)]
   dsimp only
   rw [bo _ _ _ _ _ _ _ _ _ _ (by decide), bj, bc, c7]
   rfl
  ·have h2' : ¬ (K == 2) = true := by simp [h2]
   rw [if_neg h2', if_neg h2]
   by_cases h4 : K = 4
   ·have h4' : (K == 4) = true := by simp [h4]
    rw [if_pos h4', if_pos h4]
    unfold dv
    rw [xg _ _ _ hN hl]
    refine (congrArg (fun x => Option.bind x _) (Ru (N := N) l s)).trans ?_
    rw [Option.bind_some]
    rw [bo _ _ _ _ _ _ _ _ _ _ (by decide), bc, c7]
    rfl
   ·have h4' : ¬ (K == 4) = true := by simp [h4]
    rw [if_neg h4', if_neg h4, c7]
    simp [chk, mF]
theorem LY (e : Act) : 1 ≤ szA e := by cases e; rw [nr]; have := dH ‹List Expr›; have := bg; rename_i a b _ _; have h1 := this a; have h2 := this b; omega
theorem DX : ∀ l : List Act, (l.length : Int) ≤ eB l
 | [] => by simp [eB]
 | e :: r => by have := DX r; have := LY e; simp only [List.length_cons, eB]; omega
theorem DY : ∀ {l : List Act} {e : Act}, e ∈ l → szA e ≤ eB l
 | x :: r, e, h => by
  simp only [eB]
  rcases List.mem_cons.1 h with rfl | h
  ·have := bg r; omega
  ·have := DY h; have := LY x; omega
theorem MU (P : Pr) : ∀ (l pre : List Act) (a : Flt), uq (fun _ e a => orF a (acF P e)) pre l a = orF a (kA P l) := by
 intro l
 induction l with
 | nil => intro pre a; simp only [uq, kA]; rw [mF]
 | cons e r ih => intro pre a; simp only [uq, kA, ih]; rw [aO]
theorem DZ (c : Chart) (l : List State) (A : Int) (Cs : List Chart) (Is : List Inst) (Hs : List ai) (Es : List Cert) (hN : big ≤ N) (hc : (c.Vars.length : Int) ≤ 16385) (hl : l.length < big) (e : Expr) (C At : Int) (k : Int → Int → Option R) (h : szE e < big) :
  sound_checker_expr N c.Name c.Steps c.Fuel c.Vars c.Ports c.Timers c.States c.At e.Kind e.N e.Name e.Kids e.At A Cs Is Hs Es C At l k = kf k (orF (C, At) (exF (oa c l) e)) := by
 unfold sound_checker_expr
 exact Rv c l A Cs Is Hs Es hN hc hl N R e C At k (by omega) h
def rF (c : Chart) : Prop := (c.Vars.length : Int) ≤ 16385 ∧ (c.Ports.length : Int) ≤ 16385 ∧ (c.Timers.length : Int) ≤ 16385
theorem OL (c : Chart) (l : List State) (A : Int) (Cs : List Chart) (Is : List Inst) (Hs : List ai) (Es : List Cert) (hN : big ≤ N) (hc : rF c) (hl : l.length < big) : ∀ (d : Nat) (R : Type) (e : List Act) (C At : Int) (k : Int → Int → Option R), eB e < d → eB e < big →
  (ay N d).sound_checker_acts R c.Name c.Steps c.Fuel c.Vars c.Ports c.Timers c.States c.At e A Cs Is Hs Es C At l k = kf k (orF (C, At) (kA (oa c l) e)) := by
 have hb : big = 1000000000 := rfl
 intro d
 induction d with
 | zero => intro R e C At k h; have := bg e; omega
 | succ d ih =>
  intro R e C At k hd hs
  have hk := DX e
  rw [wR]
  unfold fg
  have := od (fun pre e a => orF a (acF (oa c l) e)) (kf k) (l := e) (by omega) (fun n i (a : Flt) => cY (ay N d) N e ((e.length : Nat) : Int) A Cs Is Hs Es l c.Name c.Steps c.Fuel c.Vars c.Ports c.Timers c.States c.At (fun y z => k y z) n i a.1 a.2) (fun n pre x rest a h h1 h2 => ?_) (fun n a => ?_) e [] (C, At) N rfl (by omega)
  ·rw [MU] at this
   exact this
  ·have hx : x ∈ e := by rw [h]; simp
   have hxs := DY hx
   obtain ⟨K, s, ev, X, nn, T, EE, at_⟩ := x
   rw [nr] at hxs
   have p1 := dH X; have p2 := bg T; have p3 := bg EE
   have p4 := xj X
   simp only [cY, fD, h1, h2, if_true, Option.bind_some]
   have c13 : ∀ (b : Bool) (rec : Int → Int → Option R), cb (ay N d) N b e ((e.length : Nat) : Int) pre.length A Cs Is Hs Es a.1 a.2 l c.Name c.Steps c.Fuel c.Vars c.Ports c.Timers c.States c.At K s ev X nn T EE at_ rec = kf rec (orF a (orF (chk b 7 at_) (orF (chk (K != 7 || (decide (nn ≥ 1) && decide (nn ≤ 16))) 16 at_) (orF (uw (oa c l) X) (orF (kA (oa c l) T) (kA (oa c l) EE)))))) := by
    intro b rec
    unfold cb
    rw [bo _ _ _ _ _ _ _ _ _ _ (by decide), bc]
    simp only [uu, aZ, Option.bind_some]
    rw [bo _ _ _ _ _ _ _ _ _ _ (by decide), bc]
    have hX := od (fun pre e a => orF a (exF (oa c l) e)) (fun f : Flt => kf rec (orF (orF f (kA (oa c l) T)) (kA (oa c l) EE))) (l := X) (by omega) (fun n i (f : Flt) => cX (ay N d) N e ((e.length : Nat) : Int) pre.length X ((X.length : Nat) : Int) A Cs Is Hs Es l c.Name c.Steps c.Fuel c.Vars c.Ports c.Timers c.States c.At K s ev X nn T EE at_ (fun (y89 : Int) (y90 : Int) =>
 (ay N d).sound_checker_acts _ c.Name c.Steps c.Fuel c.Vars c.Ports c.Timers c.States c.At T A Cs Is Hs Es y89 y90 l (fun (r91 : Int) (r92 : Int) =>
 (ay N d).sound_checker_acts _ c.Name c.Steps c.Fuel c.Vars c.Ports c.Timers c.States c.At EE A Cs Is Hs Es r91 r92 l (fun (r93 : Int) (r94 : Int) =>
 rec r93 r94))) n i f.1 f.2) (fun n pre x rest f h h1 h2 => ?_) (fun n f => ?_) X []
    ·have := hX (orF (orF a (chk b 7 at_)) (chk (K != 7 || (decide (nn ≥ 1) && decide (nn ≤ 16))) 16 at_)) N rfl (by omega)
     rw [BX] at this
     simp only [List.length_nil] at this
     refine Eq.trans this ?_
     simp only [aO]
    ·have hx : x ∈ X := by rw [h]; simp
     have := xk hx
     simp only [cX, fC, h1, h2, if_true, Option.bind_some]
     rw [DZ c l A Cs Is Hs Es hN hc.1 hl _ _ _ _ (by omega), bc]
    ·simp only [cX, fC]
     simp only [Int.lt_irrefl, decide_false, Bool.false_eq_true, if_false]
     rw [ih _ _ _ _ _ (by omega) (by omega), bc, ih _ _ _ _ _ (by omega) (by omega)]
   have c12 : ∀ (q : Bool) (kk : Bool → Option R), dO (ay N d) N true e ((e.length : Nat) : Int) pre.length q A Cs Is Hs Es a.1 a.2 l c.Name c.Steps c.Fuel c.Vars c.Ports c.Timers c.States c.At K s ev X nn T EE at_ kk = kk (if q = true then (oa c l).t s else true) := by
    intro q kk
    unfold dO
    split
    ·unfold bE
     rw [pg _ _ _ hN (by have := hc.2.2; omega)]
     simp only [bj]
     rfl
    ·rfl
   simp only [acF, there]
   unfold bE
   by_cases e1 : K = 1
   ·subst e1
    simp only [beq_self_eq_true, if_true]
    rw [pg _ _ _ hN (by have := hc.1; omega)]
    simp only [bj, c13]
    rfl
   by_cases e3 : K = 3
   ·subst e3
    simp only [show ((3 : Int) == 1) = false from rfl, show ¬ ((3 : Int) = 1) from by decide, Bool.false_eq_true, beq_self_eq_true, if_true, if_false]
    rw [pg _ _ _ hN (by have := hc.2.1; omega)]
    simp only [bj, c13]
    rfl
   have b1 : (K == 1) = false := by simp [e1]
   have b3 : (K == 3) = false := by simp [e3]
   simp only [b1, b3, e1, e3, Bool.false_eq_true, if_false]
   by_cases e4 : K = 4
   ·subst e4
    simp only [beq_self_eq_true, if_true, c12, c13, true_or]
    rfl
   have b4 : (K == 4) = false := by simp [e4]
   simp only [b4, e4, Bool.false_eq_true, if_false, c12, c13, false_or, beq_iff_eq]
   rfl
  ·simp only [cY, fD]
   simp [kf]
theorem He (c : Chart) (l : List State) (A : Int) (Cs : List Chart) (Is : List Inst) (Hs : List ai) (Es : List Cert) (hN : big ≤ N) (hc : rF c) (hl : l.length < big) (e : List Act) (C At : Int) (k : Int → Int → Option R) (h : eB e < big) :
  sound_checker_acts N c.Name c.Steps c.Fuel c.Vars c.Ports c.Timers c.States c.At e A Cs Is Hs Es C At l k = kf k (orF (C, At) (kA (oa c l) e)) := by
 unfold sound_checker_acts
 exact OL c l A Cs Is Hs Es hN hc hl N R e C At k (by omega) h
theorem OM (c : Chart) (l : List State) (A : Int) (Cs : List Chart) (Is : List Inst) (Hs : List ai) (Es : List Cert) (hN : big ≤ N) (hc : rF c) (hl : l.length < big) (t : Trans) (n C At : Int) (k : Int → Int → Option R) (h : szT t < big) :
  iY N c.Name c.Steps c.Fuel c.Vars c.Ports c.Timers c.States c.At t.Event t.Guard t.Target t.Acts t.At n A Cs Is Hs Es C At l k = kf k (orF (C, At) (trF (oa c l) n t)) := by
 have hb : big = 1000000000 := rfl
 have p1 := dH t.Guard; have p2 := bg t.Acts; have p3 := xj t.Guard
 unfold szT at h
 unfold iY
 rw [bo _ _ _ _ _ _ _ _ _ _ (by decide), bc]
 unfold dv
 simp only [xg _ _ _ hN hl, bj, aZ, Option.bind_some]
 rw [bo _ _ _ _ _ _ _ _ _ _ (by decide), bc]
 have hX := od (fun pre e a => orF a (exF (oa c l) e)) (fun f : Flt => kf k (orF f (kA (oa c l) t.Acts))) (l := t.Guard) (by omega) (fun n i (f : Flt) => cG N t.Guard ((t.Guard.length : Nat) : Int) A Cs Is Hs Es l c.Name c.Steps c.Fuel c.Vars c.Ports c.Timers c.States c.At t.Event t.Guard t.Target t.Acts t.At (fun (y34 : Int) (y35 : Int) =>
 sound_checker_acts N c.Name c.Steps c.Fuel c.Vars c.Ports c.Timers c.States c.At t.Acts A Cs Is Hs Es y34 y35 l (fun (r36 : Int) (r37 : Int) =>
 k r36 r37)) n i f.1 f.2) (fun n pre x rest f h h1 h2 => ?_) (fun n f => ?_) t.Guard []
 ·have := hX (orF (orF (C, At) (chk (decide (n ≤ 96)) 15 t.At)) (chk (t.Target == [] || l.any fun e => e.Name == t.Target) 7 t.At)) N rfl (by omega)
  rw [BX] at this
  simp only [List.length_nil] at this
  refine Eq.trans this ?_
  unfold trF
  simp only [aO]
  rfl
 ·have hx : x ∈ t.Guard := by rw [h]; simp
  have := xk hx
  simp only [cG, eN, h1, h2, if_true, Option.bind_some]
  rw [DZ c l A Cs Is Hs Es hN hc.1 hl _ _ _ _ (by omega), bc]
 ·simp only [cG, eN]
  simp only [Int.lt_irrefl, decide_false, Bool.false_eq_true, if_false]
  rw [He c l A Cs Is Hs Es hN hc hl _ _ _ _ (by omega)]
end
section
variable {R : Type} {N : Nat}
theorem ta (s : State) : 1 ≤ szS s := by
 obtain ⟨k, n, en, ex, tr, kids, a⟩ := s
 rw [tR]
 have := bg en; have := bg ex; have := rK tr; have := bH kids
 omega
theorem db : ∀ l : List State, (l.length : Int) ≤ aN l
 | [] => by simp [aN]
 | e :: r => by have := db r; have := ta e; simp only [List.length_cons, aN]; omega
theorem Au : ∀ l : List Trans, (l.length : Int) ≤ pq l
 | [] => by simp [pq]
 | e :: r => by have := Au r; have := dH e.Guard; have := bg e.Acts; simp only [List.length_cons, pq, szT]; omega
theorem Ea : ∀ {l : List Trans} {e : Trans}, e ∈ l → szT e ≤ pq l
 | x :: r, e, h => by
  simp only [pq]
  rcases List.mem_cons.1 h with rfl | h
  ·have := rK r; omega
  ·have := Ea h; have := dH x.Guard; have := bg x.Acts; simp only [szT] at *; omega
theorem ka (s : State) : 1 + aN s.Kids ≤ szS s := by
 obtain ⟨k, n, en, ex, tr, kids, a⟩ := s
 rw [tR]
 have := bg en; have := bg ex; have := rK tr
 simp only; omega
theorem Gs (s : State) : eB s.Entry ≤ szS s ∧ eB s.Exit ≤ szS s ∧ pq s.Trans ≤ szS s := by
 obtain ⟨k, n, en, ex, tr, kids, a⟩ := s
 rw [tR]
 have := bg en; have := bg ex; have := rK tr; have := bH kids
 simp only; omega
theorem bD (s : State) : flS s = s :: flL s.Kids := by cases s; simp [flS]
theorem zC (top : Bool) (out : List State) (s : State) : tr1 top out s = orF (iq top out s) (trL false (out ++ [s]) s.Kids) := by cases s; simp [tr1]
theorem Hf : ∀ l : List State, (∀ s ∈ flL l, szS s ≤ aN l) ∧ ((flL l).length : Int) ≤ aN l ∧ ((flL l).map fun s => (s.Trans.length : Int)).sum ≤ aN l := by
 intro l
 refine State.rec_1 (motive_1 := fun s => (∀ x ∈ flS s, szS x ≤ szS s) ∧ ((flS s).length : Int) ≤ szS s ∧ ((flS s).map fun s => (s.Trans.length : Int)).sum ≤ szS s) (motive_2 := fun l => (∀ s ∈ flL l, szS s ≤ aN l) ∧ ((flL l).length : Int) ≤ aN l ∧ ((flL l).map fun s => (s.Trans.length : Int)).sum ≤ aN l) ?_ ?_ ?_ l
 ·intro k n en ex tr kids a ih
  rw [bD, tR]
  have := bg en; have := bg ex; have := rK tr; have := Au tr; have := bH kids
  refine ⟨fun x hx => ?_, ?_, ?_⟩
  ·rcases List.mem_cons.1 hx with rfl | hx
   ·rw [tR]; omega
   ·have := ih.1 x hx; omega
  ·simp only [List.length_cons]; have := ih.2.1; omega
  ·simp only [List.map_cons, List.sum_cons]; have := ih.2.2; omega
 ·simp [flL, aN]
 ·intro s r h1 h2
  simp only [flL, aN, List.mem_append, List.length_append, List.map_append, List.sum_append]
  have p1 := ta s; have p2 := bH r
  refine ⟨fun x hx => ?_, by have := h1.2.1; have := h2.2.1; omega, by have := h1.2.2; have := h2.2.2; omega⟩
  rcases hx with hx | hx
  ·have := h1.1 x hx; omega
  ·have := h2.1 x hx; omega
theorem Iq {α : Type} (l : List α) (x y : α) : (l ++ [x]).set l.length y = l ++ [y] := by simp
theorem rG (F : az) (A : Int) (Cs : List Chart) (Is : List Inst) (Hs : List ai) (Es : List Cert) (top b : Bool) (x1 : List State) (x2 x3 C At : Int) (out : List State) (s : State) (kp0 kp1 : Int → Int → List State → Option R) (ho : (out.length : Int) < big) :
  fy F N top b x1 x2 x3 A Cs Is Hs Es C At out s.Kind s.Name s.Entry s.Exit s.Trans s.Kids s.At kp0 kp1 =
   (if (orF (C, At) (chk (!b) 17 s.At)).1 ≠ 0 then kp0 (orF (C, At) (chk (!b) 17 s.At)).1 (orF (C, At) (chk (!b) 17 s.At)).2 (out ++ [s]) else F.sound_checker_tree_2 R s.Kids false A Cs Is Hs Es (orF (C, At) (chk (!b) 17 s.At)).1 (orF (C, At) (chk (!b) 17 s.At)).2 (out ++ [s]) kp1) := by
 have hb : big = 1000000000 := rfl
 obtain ⟨s1, s2, s3, s4, s5, s6, s7⟩ := s
 unfold fy
 rw [bo _ _ _ _ _ _ _ _ _ _ (by decide), bc]
 rw [if_pos (by simp [ak]; omega), if_pos (by simp; omega)]
 have hg : (out ++ ([(⟨0, [], [], [], [], [], 0⟩ : State)]))[((out.length : Nat) : Int).toNat]? = some ⟨0, [], [], [], [], [], 0⟩ := by simp
 rw [hg]
 dsimp only
 rw [Int.toNat_natCast, Iq]
 by_cases h : (orF (C, At) (chk (!b) 17 s7)).1 = 0
 ·rw [if_neg (by simp [h]), if_neg (by simp [h])]
 ·rw [if_pos (by simp [h]), if_pos h]
theorem sK (A : Int) (Cs : List Chart) (Is : List Inst) (Hs : List ai) (Es : List Cert) (hN : big ≤ N) (F : az) (top : Bool) (l : List State) (k : Int → Int → List State → Option R) (hl : aN l < 20000)
  (hF : ∀ (e : State), e ∈ l → ∀ (C At : Int) (out : List State) (k : Int → Int → List State → Option R), out.length + aN e.Kids < 400000000 → ∃ o', F.sound_checker_tree_2 R e.Kids false A Cs Is Hs Es C At out k = k (orF (C, At) (trL false out e.Kids)).1 (orF (C, At) (trL false out e.Kids)).2 o' ∧ ((orF (C, At) (trL false out e.Kids)).1 = 0 → o' = out ++ flL e.Kids) ∧ (o'.length : Int) ≤ out.length + aN e.Kids ∧ ∀ s ∈ o', s ∈ out ∨ s ∈ flL e.Kids) : ∀ (rest pre : List State) (n : Nat) (C At : Int) (out : List State), l = pre ++ rest → rest.length < n → out.length + aN rest < 400000000 →
  ∃ o', bS F N top l ((l.length : Nat) : Int) A Cs Is Hs Es k k n pre.length C At out = k (orF (C, At) (trL top out rest)).1 (orF (C, At) (trL top out rest)).2 o' ∧ ((orF (C, At) (trL top out rest)).1 = 0 → o' = out ++ flL rest) ∧ (o'.length : Int) ≤ out.length + aN rest ∧ ∀ s ∈ o', s ∈ out ∨ s ∈ flL rest := by
 have hb : big = 1000000000 := rfl
 intro rest
 induction rest with
 | nil =>
  intro pre n C At out h hn ho
  obtain ⟨n, rfl⟩ : ∃ m, n = m + 1 := ⟨n - 1, by omega⟩
  have : l = pre := by simpa using h
  subst this
  refine ⟨out, ?_, fun _ => by simp [flL], by simp [aN], fun s hs => .inl hs⟩
  simp only [bS, eC, trL, mF]
  simp
 | cons e r ih =>
  intro pre n C At out h hn ho
  obtain ⟨n, rfl⟩ : ∃ m, n = m + 1 := ⟨n - 1, by omega⟩
  have hlen : l.length = pre.length + (r.length + 1) := by rw [h]; simp
  have hll := db l
  have he : e ∈ l := by rw [h]; simp
  have hes : szS e + aN r ≤ aN l := by rw [h, xu]; have := bH pre; simp only [aN]; omega
  have hk := ka e; have hkl := db e.Kids; have hkp := bH e.Kids; have hrp := bH r
  simp only [aN] at ho
  have hat : at? l pre.length = some e := bf (by omega) (by rw [h]; simp)
  have hd : decide (((pre.length : Nat) : Int) < ((l.length : Nat) : Int)) = true := by simp; omega
  simp only [bS, eC, hd, hat, if_true, Option.bind_some]
  rw [bo _ _ _ _ _ _ _ _ _ _ (by decide), bc, DV _ _ _ hN (by omega), bo _ _ _ _ _ _ _ _ _ _ (by decide), bc]
  simp only [yA, DU _ _ hN (show e.Kids.length < big by omega), ax, aZ, Option.bind_some]
  rw [rG F A Cs Is Hs Es top _ _ _ _ _ _ out e _ _ (by omega)]
  have hf1 : orF (orF (orF (C, At) (chk (decide (((out.length : Nat) : Int) < 63)) 15 e.At)) (chk (!out.any fun x => x.Name == e.Name) 8 e.At)) (chk (!((top && isH e || (e.Kind == 2 && !e.Kids.any fun e => !isH e)) || (decide (((e.Kids.length : Nat) : Int) > 0) && !e.Kids.any fun e => !isH e))) 17 e.At) = orF (C, At) (iq top out e) := by
   unfold iq BW
   simp only [aO]
  have hf1' := hf1
  simp only [Prod.eta] at hf1' ⊢
  rw [hf1']
  have htr : orF (C, At) (trL top out (e :: r)) = orF (orF (orF (C, At) (iq top out e)) (trL false (out ++ [e]) e.Kids)) (trL top (out ++ flS e) r) := by
   simp only [trL, zC, aO]
  rw [htr]
  by_cases hc : (orF (C, At) (iq top out e)).1 = 0
  ·rw [if_neg (by simp [hc])]
   obtain ⟨o2, h1, h2, h3, h4⟩ := hF e he (orF (C, At) (iq top out e)).1 (orF (C, At) (iq top out e)).2 (out ++ [e]) (fun (y56 : Int) (y57 : Int) (y58 : List State) => bS F N top l ((l.length : Nat) : Int) A Cs Is Hs Es k k n (IntKind.wrap .i64 (((pre.length : Nat) : Int) + 1)) y56 y57 y58) (by simp; omega)
   rw [h1]
   have hr : IntKind.wrap .i64 (((pre.length : Nat) : Int) + 1) = (((pre ++ [e]).length : Nat) : Int) := by rw [wr _ (by omega) (by omega)]; simp
   rw [hr]
   simp only [List.length_append, List.length_singleton] at h3
   obtain ⟨o3, g1, g2, g3, g4⟩ := ih (pre ++ [e]) n (orF (orF (C, At) (iq top out e)) (trL false (out ++ [e]) e.Kids)).1 (orF (orF (C, At) (iq top out e)) (trL false (out ++ [e]) e.Kids)).2 o2 (by rw [h]; simp) (by simp at hn; omega) (by omega)
   simp only [Prod.eta] at g1 g2 g3
   have hsame : orF (orF (orF (C, At) (iq top out e)) (trL false (out ++ [e]) e.Kids)) (trL top o2 r) = orF (orF (orF (C, At) (iq top out e)) (trL false (out ++ [e]) e.Kids)) (trL top (out ++ flS e) r) := by
    by_cases hz : (orF (orF (C, At) (iq top out e)) (trL false (out ++ [e]) e.Kids)).1 = 0
    ·rw [h2 hz, bD]; simp
    ·rw [aL _ hz, aL _ hz]
   rw [hsame] at g1 g2
   refine ⟨o3, g1, fun hz => ?_, ?_, fun s hs => ?_⟩
   ·rw [g2 hz, h2 (cz.1 hz).1]
    simp [flL, bD]
   ·simp only [aN]; omega
   ·simp only [flL, List.mem_append, bD, List.mem_cons]
    rcases g4 s hs with hs | hs
    ·rcases h4 s hs with hs | hs
     ·rcases List.mem_append.1 hs with hs | hs
      ·exact .inl hs
      ·exact .inr (.inl (.inl (List.mem_singleton.1 hs)))
     ·exact .inr (.inl (.inr hs))
    ·exact .inr (.inr hs)
  ·rw [if_pos hc]
   have h1 : orF (orF (orF (C, At) (iq top out e)) (trL false (out ++ [e]) e.Kids)) (trL top (out ++ flS e) r) = orF (C, At) (iq top out e) := by
    rw [aL (a := orF (C, At) (iq top out e)) _ hc, aL _ hc]
   rw [h1]
   refine ⟨out ++ [e], rfl, fun h => absurd h hc, ?_, fun s hs => ?_⟩
   ·have := ta e
    simp only [List.length_append, List.length_singleton, aN]; omega
   ·rcases List.mem_append.1 hs with hs | hs
    ·exact .inl hs
    ·right
     rw [List.mem_singleton.1 hs]
     simp [flL, bD]
theorem MV (A : Int) (Cs : List Chart) (Is : List Inst) (Hs : List ai) (Es : List Cert) (hN : big ≤ N) : ∀ (d : Nat) (R : Type) (top : Bool) (l : List State) (C At : Int) (out : List State) (k : Int → Int → List State → Option R), aN l < d → aN l < 20000 → out.length + aN l < 400000000 →
  ∃ o', (bp N d).sound_checker_tree_2 R l top A Cs Is Hs Es C At out k = k (orF (C, At) (trL top out l)).1 (orF (C, At) (trL top out l)).2 o' ∧ ((orF (C, At) (trL top out l)).1 = 0 → o' = out ++ flL l) ∧ (o'.length : Int) ≤ out.length + aN l ∧ ∀ s ∈ o', s ∈ out ∨ s ∈ flL l := by
 have hb : big = 1000000000 := rfl
 intro d
 induction d with
 | zero => intro R top l C At out k h; have := bH l; omega
 | succ d ih =>
  intro R top l C At out k hd hs ho
  rw [uG]
  unfold dN
  have hll := db l
  refine sK A Cs Is Hs Es hN _ top l _ hs (fun e he C At out k ho => ?_) l [] N C At out rfl (by omega) ho
  have : szS e ≤ aN l := by
   have : ∀ l : List State, e ∈ l → szS e ≤ aN l := by
    intro l
    induction l with
    | nil => intro h; cases h
    | cons x r ih =>
     intro h
     have := bH r; have := ta x
     simp only [aN]
     rcases List.mem_cons.1 h with rfl | h
     ·omega
     ·have := ih h; omega
   exact this l he
  have := ka e
  exact ih R false e.Kids C At out k (by omega) (by omega) ho
theorem ON (A : Int) (Cs : List Chart) (Is : List Inst) (Hs : List ai) (Es : List Cert) (hN : big ≤ N) (top : Bool) (l : List State) (C At : Int) (out : List State) (k : Int → Int → List State → Option R) (h1 : aN l < 20000) (h2 : out.length + aN l < 400000000) :
  ∃ o', sound_checker_tree_2 N l top A Cs Is Hs Es C At out k = k (orF (C, At) (trL top out l)).1 (orF (C, At) (trL top out l)).2 o' ∧ ((orF (C, At) (trL top out l)).1 = 0 → o' = out ++ flL l) ∧ (o'.length : Int) ≤ out.length + aN l ∧ ∀ s ∈ o', s ∈ out ∨ s ∈ flL l := by
 have hb : big = 1000000000 := rfl
 unfold sound_checker_tree_2
 exact MV A Cs Is Hs Es hN N R top l C At out k (by omega) h1 h2
theorem tM (A : Int) (Cs : List Chart) (Is : List Inst) (Hs : List ai) (Es : List Cert) (top b : Bool) (x1 : List State) (x2 x3 C At : Int) (out : List State) (s : State) (kp0 kp1 : Int → Int → List State → Option R) (ho : (out.length : Int) < big) :
  gV N top b x1 x2 x3 A Cs Is Hs Es C At out s.Kind s.Name s.Entry s.Exit s.Trans s.Kids s.At kp0 kp1 =
   (if (orF (C, At) (chk (!b) 17 s.At)).1 ≠ 0 then kp0 (orF (C, At) (chk (!b) 17 s.At)).1 (orF (C, At) (chk (!b) 17 s.At)).2 (out ++ [s]) else sound_checker_tree_2 N s.Kids false A Cs Is Hs Es (orF (C, At) (chk (!b) 17 s.At)).1 (orF (C, At) (chk (!b) 17 s.At)).2 (out ++ [s]) kp1) := by
 have hb : big = 1000000000 := rfl
 obtain ⟨s1, s2, s3, s4, s5, s6, s7⟩ := s
 unfold gV
 rw [bo _ _ _ _ _ _ _ _ _ _ (by decide), bc]
 rw [if_pos (by simp [ak]; omega), if_pos (by simp; omega)]
 have hg : (out ++ ([(⟨0, [], [], [], [], [], 0⟩ : State)]))[((out.length : Nat) : Int).toNat]? = some ⟨0, [], [], [], [], [], 0⟩ := by simp
 rw [hg]
 dsimp only
 rw [Int.toNat_natCast, Iq]
 by_cases h : (orF (C, At) (chk (!b) 17 s7)).1 = 0
 ·rw [if_neg (by simp [h]), if_neg (by simp [h])]
 ·rw [if_pos (by simp [h]), if_pos h]
theorem ux (A : Int) (Cs : List Chart) (Is : List Inst) (Hs : List ai) (Es : List Cert) (hN : big ≤ N) (top : Bool) (l : List State) (k : Int → Int → List State → Option R) (hl : aN l < 20000)
  : ∀ (rest pre : List State) (n : Nat) (C At : Int) (out : List State), l = pre ++ rest → rest.length < n → out.length + aN rest < 400000000 →
  ∃ o', cq N top l ((l.length : Nat) : Int) A Cs Is Hs Es k k n pre.length C At out = k (orF (C, At) (trL top out rest)).1 (orF (C, At) (trL top out rest)).2 o' ∧ ((orF (C, At) (trL top out rest)).1 = 0 → o' = out ++ flL rest) ∧ (o'.length : Int) ≤ out.length + aN rest ∧ ∀ s ∈ o', s ∈ out ∨ s ∈ flL rest := by
 have hb : big = 1000000000 := rfl
 intro rest
 induction rest with
 | nil =>
  intro pre n C At out h hn ho
  obtain ⟨n, rfl⟩ : ∃ m, n = m + 1 := ⟨n - 1, by omega⟩
  have : l = pre := by simpa using h
  subst this
  refine ⟨out, ?_, fun _ => by simp [flL], by simp [aN], fun s hs => .inl hs⟩
  simp only [cq, fA, trL, mF]
  simp
 | cons e r ih =>
  intro pre n C At out h hn ho
  obtain ⟨n, rfl⟩ : ∃ m, n = m + 1 := ⟨n - 1, by omega⟩
  have hlen : l.length = pre.length + (r.length + 1) := by rw [h]; simp
  have hll := db l
  have he : e ∈ l := by rw [h]; simp
  have hes : szS e + aN r ≤ aN l := by rw [h, xu]; have := bH pre; simp only [aN]; omega
  have hk := ka e; have hkl := db e.Kids; have hkp := bH e.Kids; have hrp := bH r
  simp only [aN] at ho
  have hat : at? l pre.length = some e := bf (by omega) (by rw [h]; simp)
  have hd : decide (((pre.length : Nat) : Int) < ((l.length : Nat) : Int)) = true := by simp; omega
  simp only [cq, fA, hd, hat, if_true, Option.bind_some]
  rw [bo _ _ _ _ _ _ _ _ _ _ (by decide), bc, DV _ _ _ hN (by omega), bo _ _ _ _ _ _ _ _ _ _ (by decide), bc]
  simp only [yA, DU _ _ hN (show e.Kids.length < big by omega), ax, aZ, Option.bind_some]
  rw [tM A Cs Is Hs Es top _ _ _ _ _ _ out e _ _ (by omega)]
  have hf1 : orF (orF (orF (C, At) (chk (decide (((out.length : Nat) : Int) < 63)) 15 e.At)) (chk (!out.any fun x => x.Name == e.Name) 8 e.At)) (chk (!((top && isH e || (e.Kind == 2 && !e.Kids.any fun e => !isH e)) || (decide (((e.Kids.length : Nat) : Int) > 0) && !e.Kids.any fun e => !isH e))) 17 e.At) = orF (C, At) (iq top out e) := by
   unfold iq BW
   simp only [aO]
  have hf1' := hf1
  simp only [Prod.eta] at hf1' ⊢
  rw [hf1']
  have htr : orF (C, At) (trL top out (e :: r)) = orF (orF (orF (C, At) (iq top out e)) (trL false (out ++ [e]) e.Kids)) (trL top (out ++ flS e) r) := by
   simp only [trL, zC, aO]
  rw [htr]
  by_cases hc : (orF (C, At) (iq top out e)).1 = 0
  ·rw [if_neg (by simp [hc])]
   obtain ⟨o2, h1, h2, h3, h4⟩ := ON A Cs Is Hs Es hN false e.Kids (orF (C, At) (iq top out e)).1 (orF (C, At) (iq top out e)).2 (out ++ [e]) (fun (y56 : Int) (y57 : Int) (y58 : List State) => cq N top l ((l.length : Nat) : Int) A Cs Is Hs Es k k n (IntKind.wrap .i64 (((pre.length : Nat) : Int) + 1)) y56 y57 y58) (by omega) (by simp; omega)
   rw [h1]
   have hr : IntKind.wrap .i64 (((pre.length : Nat) : Int) + 1) = (((pre ++ [e]).length : Nat) : Int) := by rw [wr _ (by omega) (by omega)]; simp
   rw [hr]
   simp only [List.length_append, List.length_singleton] at h3
   obtain ⟨o3, g1, g2, g3, g4⟩ := ih (pre ++ [e]) n (orF (orF (C, At) (iq top out e)) (trL false (out ++ [e]) e.Kids)).1 (orF (orF (C, At) (iq top out e)) (trL false (out ++ [e]) e.Kids)).2 o2 (by rw [h]; simp) (by simp at hn; omega) (by omega)
   simp only [Prod.eta] at g1 g2 g3
   have hsame : orF (orF (orF (C, At) (iq top out e)) (trL false (out ++ [e]) e.Kids)) (trL top o2 r) = orF (orF (orF (C, At) (iq top out e)) (trL false (out ++ [e]) e.Kids)) (trL top (out ++ flS e) r) := by
    by_cases hz : (orF (orF (C, At) (iq top out e)) (trL false (out ++ [e]) e.Kids)).1 = 0
    ·rw [h2 hz, bD]; simp
    ·rw [aL _ hz, aL _ hz]
   rw [hsame] at g1 g2
   refine ⟨o3, g1, fun hz => ?_, ?_, fun s hs => ?_⟩
   ·rw [g2 hz, h2 (cz.1 hz).1]
    simp [flL, bD]
   ·simp only [aN]; omega
   ·simp only [flL, List.mem_append, bD, List.mem_cons]
    rcases g4 s hs with hs | hs
    ·rcases h4 s hs with hs | hs
     ·rcases List.mem_append.1 hs with hs | hs
      ·exact .inl hs
      ·exact .inr (.inl (.inl (List.mem_singleton.1 hs)))
     ·exact .inr (.inl (.inr hs))
    ·exact .inr (.inr hs)
  ·rw [if_pos hc]
   have h1 : orF (orF (orF (C, At) (iq top out e)) (trL false (out ++ [e]) e.Kids)) (trL top (out ++ flS e) r) = orF (C, At) (iq top out e) := by
    rw [aL (a := orF (C, At) (iq top out e)) _ hc, aL _ hc]
   rw [h1]
   refine ⟨out ++ [e], rfl, fun h => absurd h hc, ?_, fun s hs => ?_⟩
   ·have := ta e
    simp only [List.length_append, List.length_singleton, aN]; omega
   ·rcases List.mem_append.1 hs with hs | hs
    ·exact .inl hs
    ·right
     rw [List.mem_singleton.1 hs]
     simp [flL, bD]
theorem Rw (A : Int) (Cs : List Chart) (Is : List Inst) (Hs : List ai) (Es : List Cert) (hN : big ≤ N) (top : Bool) (l : List State) (C At : Int) (k : Int → Int → List State → Option R) (hl : aN l < 20000) :
  ∃ o', jG N l top A Cs Is Hs Es C At k = k (orF (C, At) (trL top [] l)).1 (orF (C, At) (trL top [] l)).2 o' ∧ ((orF (C, At) (trL top [] l)).1 = 0 → o' = flL l) ∧ (o'.length : Int) ≤ aN l ∧ ∀ s ∈ o', s ∈ flL l := by
 have hb : big = 1000000000 := rfl
 have hll := db l
 unfold jG
 obtain ⟨o', h1, h2, h3, h4⟩ := ux A Cs Is Hs Es hN top l k hl l [] N C At [] rfl (by omega) (by simp; omega)
 refine ⟨o', h1, fun h => by simpa using h2 h, by simpa using h3, fun s hs => by simpa using h4 s hs⟩
end
def w1 (n : Int) : Int := IntKind.wrap .i64 (n + 1)
def tsW (P : Pr) (a : Int × Flt) (t : Trans) : Int × Flt := (w1 a.1, orF a.2 (trF P (w1 a.1) t))
def stW (P : Pr) (a : Int × Flt) (s : State) : Int × Flt := if isH s = true then a else s.Trans.foldl (tsW P) (a.1, orF (orF a.2 (kA P s.Entry)) (kA P s.Exit))
theorem jt {E A : Type} (g : A → E → A) : ∀ (l pre : List E) (a : A), uq (fun _ e a => g a e) pre l a = l.foldl g a := by
 intro l
 induction l with
 | nil => intro pre a; rfl
 | cons e r ih => intro pre a; exact ih _ _
theorem OO (P : Pr) : ∀ (l : List Trans) (a : Int × Flt), a.2.1 ≠ 0 → (l.foldl (tsW P) a).2 = a.2
 | [], a, h => rfl
 | t :: r, a, h => by
  simp only [List.foldl_cons]
  have h1 : (tsW P a t).2 = a.2 := aL _ h
  rw [OO P r _ (by rw [h1]; exact h), h1]
theorem OP (P : Pr) : ∀ (l : List State) (a : Int × Flt), a.2.1 ≠ 0 → (l.foldl (stW P) a).2 = a.2
 | [], a, h => rfl
 | s :: r, a, h => by
  simp only [List.foldl_cons]
  have h1 : (stW P a s).2 = a.2 := by
   unfold stW
   split
   ·rfl
   ·have h2 : orF (orF a.2 (kA P s.Entry)) (kA P s.Exit) = a.2 := by rw [aL (a := a.2) _ h, aL _ h]
    rw [OO P _ _ (by simp only; rw [h2]; exact h)]
    exact h2
  rw [OP P r _ (by rw [h1]; exact h), h1]
theorem OQ (P : Pr) : ∀ (l : List Trans) (n : Int) (f : Flt), 0 ≤ n → n + l.length < 1000000000000 → l.foldl (tsW P) (n, f) = (n + l.length, orF f (yS P n l))
 | [], n, f, _, _ => by simp [yS, mF]
 | t :: r, n, f, h0, h1 => by
  simp only [List.length_cons] at h1
  have hw : w1 n = n + 1 := wr _ (by omega) (by omega)
  simp only [List.foldl_cons, tsW, hw]
  rw [OQ P r (n + 1) _ (by omega) (by omega)]
  simp only [yS, aO, List.length_cons]
  congr 1
  omega
theorem Kl (P : Pr) : ∀ (l : List State) (n : Int) (f : Flt), 0 ≤ n → n + (l.map fun s => (s.Trans.length : Int)).sum < 1000000000000 → (l.foldl (stW P) (n, f)).2 = orF f (inF P n l)
 | [], n, f, _, _ => by simp [inF, mF]
 | s :: r, n, f, h0, h1 => by
  simp only [List.map_cons, List.sum_cons] at h1
  have hp : ∀ l : List State, 0 ≤ (l.map fun s => (s.Trans.length : Int)).sum := by
   intro l
   induction l with
   | nil => simp
   | cons x r ih => simp only [List.map_cons, List.sum_cons]; omega
  have hr := hp r
  simp only [List.foldl_cons, stW, inF]
  split
  ·exact Kl P r n f h0 (by omega)
  ·rw [OQ P _ _ _ h0 (by omega), Kl P r _ _ (by omega) (by omega)]
   simp only [aO]
section
variable {R : Type} {N : Nat}
theorem Km (c : Chart) (l : List State) (A : Int) (Cs : List Chart) (Is : List Inst) (Hs : List ai) (Es : List Cert) (hN : big ≤ N) (hc : rF c) (hl : l.length < big) (hs : ∀ s ∈ l, szS s < big) (C At : Int) (k : Int → Int → Option R) :
  ba N ((l.length : Nat) : Int) A Cs Is Hs Es c.Name c.Steps c.Fuel c.Vars c.Ports c.Timers c.States c.At l k N 0 0 C At = kf k (l.foldl (stW (oa c l)) (0, (C, At))).2 := by
 have hb : big = 1000000000 := rfl
 have := od (fun pre e a => stW (oa c l) a e) (fun a : Int × Flt => kf k a.2) hl (fun n i (a : Int × Flt) => ba N ((l.length : Nat) : Int) A Cs Is Hs Es c.Name c.Steps c.Fuel c.Vars c.Ports c.Timers c.States c.At l k n a.1 i a.2.1 a.2.2) (fun n pre e rest a h h1 h2 => ?_) (fun n a => ?_) l [] (0, (C, At)) N rfl (by omega)
 ·rw [jt] at this
  exact this
 ·have he : e ∈ l := by rw [h]; simp
  have hse := hs e he
  obtain ⟨q1, q2, q3⟩ := Gs e
  have q4 := Au e.Trans
  have hlt : pre.length < l.length := by simpa using h1
  have hg : l[((pre.length : Nat) : Int).toNat]? = some e := by rw [h]; simp
  simp only [ba, eP, h1, if_true]
  rw [if_pos ⟨by omega, by omega⟩, hg]
  dsimp only
  rw [yA]
  unfold stW
  split
  ·rfl
  ·rw [He c l A Cs Is Hs Es hN hc hl _ _ _ _ (by omega), bc, He c l A Cs Is Hs Es hN hc hl _ _ _ _ (by omega), bc]
   have hT := od (fun pre t a => tsW (oa c l) a t) (fun b : Int × Flt => ba N ((l.length : Nat) : Int) A Cs Is Hs Es c.Name c.Steps c.Fuel c.Vars c.Ports c.Timers c.States c.At l k n b.1 (IntKind.wrap .i64 (((pre.length : Nat) : Int) + 1)) b.2.1 b.2.2) (l := e.Trans) (by omega) (fun m i (b : Int × Flt) => cH N ((l.length : Nat) : Int) ((pre.length : Nat) : Int) e.Trans ((e.Trans.length : Nat) : Int) A Cs Is Hs Es c.Name c.Steps c.Fuel c.Vars c.Ports c.Timers c.States c.At l (fun (y83 : Int) (y84 : Int) (y85 : Int) =>
 ba N ((l.length : Nat) : Int) A Cs Is Hs Es c.Name c.Steps c.Fuel c.Vars c.Ports c.Timers c.States c.At l k n y83 (IntKind.wrap .i64 (((pre.length : Nat) : Int) + 1)) y84 y85) m b.1 i b.2.1 b.2.2) (fun m pre2 t rest2 b h' h1' h2' => ?_) (fun m b => ?_) e.Trans [] (a.1, orF (orF a.2 (kA (oa c l) e.Entry)) (kA (oa c l) e.Exit)) N rfl (by omega)
   ·rw [jt] at hT
    exact hT
   ·have ht : t ∈ e.Trans := by rw [h']; simp
    have := Ea ht
    simp only [cH, eO, h1', h2', if_true, Option.bind_some]
    rw [OM c l A Cs Is Hs Es hN hc hl _ _ _ _ _ (by omega), bc]
    rfl
   ·simp only [cH, eO]
    simp only [Int.lt_irrefl, decide_false, Bool.false_eq_true, if_false]
 ·simp only [ba, eP]
  simp [kf]
def Eb (c : Chart) : Prop := rF c ∧ aN c.States < 20000
theorem OR (c : Chart) (A : Int) (Cs : List Chart) (Is : List Inst) (Hs : List ai) (Es : List Cert) (hN : big ≤ N) (hc : Eb c) (C At : Int) (k : Int → Int → Option R) :
  iZ N c.Name c.Steps c.Fuel c.Vars c.Ports c.Timers c.States c.At A Cs Is Hs Es C At k = kf k (orF (C, At) (chF c)) := by
 have hb : big = 1000000000 := rfl
 obtain ⟨hc, hs⟩ := hc
 have hl := db c.States
 unfold iZ
 simp only [uu, ax, Option.bind_some]
 rw [bo _ _ _ _ _ _ _ _ _ _ (by decide), bc, DU _ _ hN (by omega), bo _ _ _ _ _ _ _ _ _ _ (by decide), bc]
 unfold jH
 rw [DW _ _ _ _ _ _ _ _ _ _ hN (by have := hc.1; omega), bc, DW _ _ _ _ _ _ _ _ _ _ hN (by have := hc.2.1; omega), bc, DW _ _ _ _ _ _ _ _ _ _ hN (by have := hc.2.2; omega), bc]
 have hhead : orF (orF (orF (orF (orF (C, At) (chk (decide (c.Steps ≥ 2) && decide (c.Steps ≤ 16) && (decide (c.Fuel ≥ 1) && decide (c.Fuel ≤ 4096))) 16 c.At)) (chk (c.States.any fun e => !isH e) 7 c.At)) (gP (mo 8) [] c.Vars)) (gP (mo 6) [] c.Ports)) (gP (mo 6) [] c.Timers) = orF (C, At) (xi c) := by
  unfold xi
  simp only [aO]
 simp only [Prod.eta]
 rw [hhead]
 obtain ⟨o', h1, h2, h3, h4⟩ := Rw A Cs Is Hs Es hN true c.States (orF (C, At) (xi c)).1 (orF (C, At) (xi c)).2 (fun (r30 : Int) (r31 : Int) (r32 : List State) =>
 ba N ((r32.length : Nat) : Int) A Cs Is Hs Es c.Name c.Steps c.Fuel c.Vars c.Ports c.Timers c.States c.At r32 (fun (y86 : Int) (y87 : Int) =>
 k y86 y87) N 0 0 r30 r31) hs
 rw [h1]
 simp only [Prod.eta] at h2 ⊢
 obtain ⟨f1, f2, f3⟩ := Hf c.States
 rw [Km c o' A Cs Is Hs Es hN hc (by omega) (fun s hs' => by have := f1 s (h4 s hs'); omega)]
 congr 1
 unfold chF
 rw [← aO, ← aO]
 simp only [Prod.eta]
 by_cases hz : (orF (orF (C, At) (xi c)) (trL true [] c.States)).1 = 0
 ·rw [h2 hz, Kl _ _ _ _ (by omega) (by omega)]
 ·rw [OP _ _ _ hz, aL _ hz]
end
def c0 : Chart := ⟨[], 0, 0, [], [], [], [], 0⟩
def cE (Cs : List Chart) (Is : List Inst) (n : List UInt8) : Option Chart := (Is.find? fun e => e.Name == n).bind fun i => Cs.find? fun e => e.Name == i.Chart
def wF (Cs : List Chart) (pre : List Inst) (x : Inst) : Flt := orF (chk (!pre.any fun e => e.Name == x.Name) 8 x.At) (orF (chk (Cs.any fun e => e.Name == x.Chart) 7 x.At) (chk ((decide (x.Quantum ≥ 1) && decide (x.Quantum ≤ 65536)) && (decide (x.Ext ≥ 0) && decide (x.Ext ≤ 32)) && (decide (x.Prio ≥ 0) && decide (x.Prio ≤ 7))) 16 x.At))
def wG (Cs : List Chart) (Is : List Inst) (pre : List ai) (x : ai) : Flt := orF (chk (!pre.any fun e => e.Name == x.Name) 8 x.At) (orF (chk ((cE Cs Is x.From).isSome && (cE Cs Is x.To).isSome && ((cE Cs Is x.From).getD c0).Ports.any fun e => e.Name == x.Port) 7 x.At) (orF (chk (!pre.any fun y => y.From == x.From && y.Port == x.Port) 8 x.At) (chk ((decide (x.Cap ≥ 1) && decide (x.Cap ≤ 32)) && (decide (x.Prio ≥ 0) && decide (x.Prio ≤ 7))) 16 x.At)))
def te (Cs : List Chart) (Is : List Inst) (Hs : List ai) (x : Inst) : Flt := gP (fun _ (p : af) => chk (Hs.any fun y => y.From == x.Name && y.Port == p.Name) 7 x.At) [] ((cE Cs Is x.Name).getD c0).Ports
mutual
def hasN (set : List (List UInt8)) : State → Int
 | ⟨_, n, _, _, _, kids, _⟩ => (if kids.length = 0 then (((set.filter fun e => e == n).length : Nat) : Int) else 0) + ly set kids
def ly (set : List (List UInt8)) : List State → Int
 | [] => 0
 | s :: r => hasN set s + ly set r
end
mutual
def ok1 (set : List (List UInt8)) : State → Bool
 | ⟨k, n, en, ex, tr, kids, a⟩ => if kids.length = 0 then hasN set ⟨k, n, en, ex, tr, kids, a⟩ == 1 else (tN (k == 2) set kids 0 0).2
def tN (all : Bool) (set : List (List UInt8)) : List State → Int → Int → Int × Bool
 | [], sum, so => (sum, all || so == 1)
 | s :: r, sum, so => if (hasN set s == 0 && !all) = true then tN all set r sum so else if ok1 set s = true then tN all set r (sum + hasN set s) (so + 1) else (0, false)
end
def mT (l : List State) (set : List (List UInt8)) : Bool := (tN false set l 0 0).2 && (tN false set l 0 0).1 == ((set.length : Nat) : Int)
section
variable {R : Type} {N : Nat}
theorem qV {E : Type} {p : E → Bool} {l : List E} (h : ¬ idx p l < 0) : ∃ e, at? l (idx p l) = some e ∧ l.find? p = some e := by
 have : l.any p = true := by
  have := bj p l
  rw [← this]; simp; omega
 obtain ⟨e, h1, _, h3⟩ := Im this
 exact ⟨e, h1, h3⟩
theorem rz {E : Type} {p : E → Bool} {l : List E} (h : idx p l < 0) : l.find? p = none := by
 have h' : l.any p = false := by
  have := bj p l
  rw [← this]; simp; omega
 rw [List.find?_eq_none]
 intro x hx hc
 exact List.any_eq_false.1 h' x hx hc
theorem CJ {E : Type} (p : E → Bool) (l : List E) : (l.find? p).isSome = l.any p := by
 induction l with
 | nil => rfl
 | cons e r ih => simp only [List.find?_cons, List.any_cons]; cases p e <;> simp [ih]
theorem rH (n : List UInt8) (A : Int) (Cs : List Chart) (Is : List Inst) (Hs : List ai) (Es : List Cert) (C At : Int) (k : (List UInt8) → Int → Int → (List af) → (List af) → (List af) → (List State) → Int → Bool → Option R) (hN : big ≤ N) (hc : Cs.length < big) (hi : Is.length < big) :
  bw N n A Cs Is Hs Es C At k = (fun c : Chart => k c.Name c.Steps c.Fuel c.Vars c.Ports c.Timers c.States c.At (cE Cs Is n).isSome) ((cE Cs Is n).getD c0) := by
 unfold bw kj eK cE
 rw [Gr _ _ _ hN hi]
 by_cases h : idx (fun e => e.Name == n) Is < 0
 ·simp only [h, decide_true, if_true, rz h]
  rfl
 ·obtain ⟨e, h1, h2⟩ := qV h
  simp only [h, decide_false, Bool.false_eq_true, if_false, h1, h2, Option.bind_some]
  rw [zz _ _ _ hN hc]
  by_cases h' : idx (fun x => x.Name == e.Chart) Cs < 0
  ·simp only [h', decide_true, if_true, rz h']
   rfl
  ·obtain ⟨c, h3, h4⟩ := qV h'
   simp only [h', decide_false, Bool.false_eq_true, if_false, h3, h4, Option.bind_some]
   rfl
theorem Rx (pre : List Inst) (x : Inst) (rest : List Inst) (A : Int) (Cs : List Chart) (Is : List Inst) (Hs : List ai) (Es : List Cert) (C At : Int) (k : Int → Int → Option R) (hN : big ≤ N) (hc : Cs.length < big) (hi : Is.length < big) (h : Is = pre ++ x :: rest) :
  jI N pre.length x.Name x.Chart x.Quantum x.Ext x.Prio x.At A Cs Is Hs Es C At k = kf k (orF (C, At) (wF Cs pre x)) := by
 have hp : pre.length ≤ Is.length := by rw [h]; simp
 unfold jI eK
 rw [if_pos (g01 hp), jZ h, MR _ _ _ hN (by omega), bo _ _ _ _ _ _ _ _ _ _ (by decide), bc, zz _ _ _ hN hc]
 dsimp only
 rw [bo _ _ _ _ _ _ _ _ _ _ (by decide), bc]
 simp only [uu, ax, Option.bind_some, bj]
 rw [bo _ _ _ _ _ _ _ _ _ _ (by decide)]
 unfold wF
 simp only [Prod.eta, aO]
theorem Kn (pre : List ai) (x : ai) (rest : List ai) (A : Int) (Cs : List Chart) (Is : List Inst) (Hs : List ai) (Es : List Cert) (C At : Int) (k : Int → Int → Option R) (hN : big ≤ N) (hc : Cs.length < big) (hi : Is.length < big) (hh : Hs.length < big) (hcs : ∀ c ∈ Cs, rF c) (h : Hs = pre ++ x :: rest) :
  gY N pre.length x.Name x.From x.Port x.To x.Cap x.Prio x.At A Cs Is Hs Es C At k = kf k (orF (C, At) (wG Cs Is pre x)) := by
 have hb : big = 1000000000 := rfl
 have hp : pre.length ≤ Hs.length := by rw [h]; simp
 have hports : (((cE Cs Is x.From).getD c0).Ports.length : Int) ≤ 16385 := by
  cases hq : cE Cs Is x.From with
  | none => simp [c0]
  | some c =>
   unfold cE at hq
   obtain ⟨i, _, h2⟩ := Option.bind_eq_some_iff.1 hq
   exact (hcs c (List.mem_of_find?_eq_some h2)).2.1
 unfold gY iO bE
 rw [if_pos (g01 hp), jZ h, MS _ _ _ hN (by omega), bo _ _ _ _ _ _ _ _ _ _ (by decide), bc]
 simp only [rH _ _ _ _ _ _ _ _ _ hN hc hi, pg _ _ _ hN (show ((cE Cs Is x.From).getD c0).Ports.length < big by omega), bj, ax, Option.bind_some, Bool.and_assoc]
 rw [bo _ _ _ _ _ _ _ _ _ _ (by decide), bc, if_pos (g01 hp), OI _ _ _ hN (by omega), bo _ _ _ _ _ _ _ _ _ _ (by decide), bc]
 simp only [uu, ax, Option.bind_some]
 rw [bo _ _ _ _ _ _ _ _ _ _ (by decide)]
 unfold wG
 simp only [Prod.eta, aO, Bool.and_assoc]
theorem MW (x : Inst) (A : Int) (Cs : List Chart) (Is : List Inst) (Hs : List ai) (Es : List Cert) (C At : Int) (k : Int → Int → Option R) (hN : big ≤ N) (hc : Cs.length < big) (hi : Is.length < big) (hh : Hs.length < big) (hcs : ∀ c ∈ Cs, rF c) :
  iE N x.Name x.Chart x.Quantum x.Ext x.Prio x.At A Cs Is Hs Es C At k = kf k (orF (C, At) (te Cs Is Hs x)) := by
 have hb : big = 1000000000 := rfl
 have hports : (((cE Cs Is x.Name).getD c0).Ports.length : Int) ≤ 16385 := by
  cases hq : cE Cs Is x.Name with
  | none => simp [c0]
  | some c =>
   unfold cE at hq
   obtain ⟨i, _, h2⟩ := Option.bind_eq_some_iff.1 hq
   exact (hcs c (List.mem_of_find?_eq_some h2)).2.1
 unfold iE
 simp only [rH _ _ _ _ _ _ _ _ _ hN hc hi]
 unfold te
 generalize ((cE Cs Is x.Name).getD c0).Ports = P at hports
 have hX := od (fun _ p a => orF a (chk (Hs.any fun y => y.From == x.Name && y.Port == p.Name) 7 x.At)) (kf k) (l := P) (by omega) (fun n i (f : Flt) => cy N P ((P.length : Nat) : Int) A Cs Is Hs Es x.Name x.Chart x.Quantum x.Ext x.Prio x.At (fun y z => k y z) n i f.1 f.2) (fun n pre p rest f h h1 h2 => ?_) (fun n f => ?_) P [] (C, At) N rfl (by omega)
 ·rw [km (fun _ (p : af) => chk (Hs.any fun y => y.From == x.Name && y.Port == p.Name) 7 x.At)] at hX
  exact hX
 ·simp only [cy, eD, h1, h2, if_true, Option.bind_some]
  rw [OJ _ _ _ _ hN hh, bo _ _ _ _ _ _ _ _ _ _ (by decide), bc]
 ·simp only [cy, eD]
  simp [kf]
theorem OS (hN : big ≤ N) : ∀ (d : Nat) (R : Type) (l : List State) (k : List State → Option R), aN l < d → aN l < 20000 → (cR N d).sound_flat R l k = k (flL l) := by
 have hb : big = 1000000000 := rfl
 intro d
 induction d with
 | zero => intro R l k h; have := bH l; omega
 | succ d ih =>
  intro R l k hd hs
  have hll := db l
  rw [FP]
  unfold ox
  have key : ∀ (rest pre : List State) (n : Nat) (out : List State), l = pre ++ rest → rest.length < n → out.length + aN rest < 100000 → kq (cR N d) N l ((l.length : Nat) : Int) (fun y => k y) n pre.length out = k (out ++ flL rest) := by
   intro rest
   induction rest with
   | nil =>
    intro pre n out h hn ho
    obtain ⟨n, rfl⟩ : ∃ m, n = m + 1 := ⟨n - 1, by omega⟩
    have : l = pre := by simpa using h
    subst this
    simp [kq, mY, flL]
   | cons e r ihr =>
    intro pre n out h hn ho
    obtain ⟨n, rfl⟩ : ∃ m, n = m + 1 := ⟨n - 1, by omega⟩
    have hlen : l.length = pre.length + (r.length + 1) := by rw [h]; simp
    have he : szS e + aN r ≤ aN l := by rw [h, xu]; have := bH pre; simp only [aN]; omega
    have hk := ka e; have hrp := bH r
    simp only [aN] at ho
    have hat : at? l pre.length = some e := bf (by omega) (by rw [h]; simp)
    have hdc : decide (((pre.length : Nat) : Int) < ((l.length : Nat) : Int)) = true := by simp; omega
    obtain ⟨_, f2, _⟩ := Hf e.Kids
    have hkp := bH e.Kids
    have hee : (⟨e.Kind, e.Name, e.Entry, e.Exit, e.Trans, e.Kids, e.At⟩ : State) = e := by cases e; rfl
    simp only [kq, mY, hdc, hat, if_true, Option.bind_some, hee]
    rw [if_pos (by simp [ak]; omega), ih _ _ _ (by omega) (by omega)]
    rw [if_pos (by simp [ak]; omega), wr _ (by omega) (by omega), show (((pre.length : Nat) : Int) + 1) = (((pre ++ [e]).length : Nat) : Int) by simp]
    rw [ihr (pre ++ [e]) n _ (by rw [h]; simp) (by simp at hn; omega) (by simp; omega)]
    simp [flL, bD]
  have := key l [] N [] rfl (by omega) (by simp; omega)
  simpa using this
theorem LZ (hN : big ≤ N) (l : List State) (k : List State → Option R) (h : aN l < 20000) : sound_flat N l k = k (flL l) := by
 have hb : big = 1000000000 := rfl
 unfold sound_flat
 exact OS hN N R l k (by omega) h
theorem Av (set : List (List UInt8)) (s : State) : hasN set s = (if s.Kids.length = 0 then (((set.filter fun e => e == s.Name).length : Nat) : Int) else 0) + ly set s.Kids := by cases s; simp [hasN]
end
theorem Ta (nm : List UInt8) : ∀ (l : List (List UInt8)) (a : Int), 0 ≤ a → a + l.length < 1000000000000 → l.foldl (fun a e => if (e == nm) = true then w1 a else a) a = a + (((l.filter fun e => e == nm).length : Nat) : Int)
 | [], a, _, _ => by simp
 | e :: r, a, h0, h1 => by
  simp only [List.length_cons] at h1
  simp only [List.foldl_cons]
  cases he : e == nm with
  | true =>
   have hw : w1 a = a + 1 := wr _ (by omega) (by omega)
   simp only [if_true, hw]
   rw [Ta nm r (a + 1) (by omega) (by omega)]
   simp only [List.filter_cons, he, if_true, List.length_cons]; omega
  | false =>
   simp only [Bool.false_eq_true, if_false]
   rw [Ta nm r a h0 (by omega)]
   simp only [List.filter_cons, he, Bool.false_eq_true, if_false]
theorem Ko (set : List (List UInt8)) : ∀ l : List State, 0 ≤ ly set l ∧ ly set l ≤ set.length * aN l := by
 have hM : (0 : Int) ≤ set.length := by omega
 intro l
 refine State.rec_1 (motive_1 := fun s => 0 ≤ hasN set s ∧ hasN set s ≤ set.length * szS s) (motive_2 := fun l => 0 ≤ ly set l ∧ ly set l ≤ set.length * aN l) ?_ ?_ ?_ l
 ·intro k n en ex tr kids a ih
  rw [tR]
  simp only [hasN]
  have h1 : (((set.filter fun e => e == n).length : Nat) : Int) ≤ set.length := by have := List.length_filter_le (fun e => e == n) set; omega
  have p1 := bg en; have p2 := bg ex; have p3 := rK tr; have p4 := bH kids
  have h2 : (set.length : Int) * (1 + aN kids) ≤ set.length * (1 + eB en + eB ex + pq tr + aN kids) := Int.mul_le_mul_of_nonneg_left (by omega) hM
  rw [Int.mul_add, Int.mul_one] at h2
  split <;> (constructor <;> omega)
 ·simp [ly, aN]
 ·intro s r h1 h2
  simp only [ly, aN]
  rw [Int.mul_add]
  constructor <;> omega
theorem yB (set : List (List UInt8)) (s : State) : 0 ≤ hasN set s ∧ hasN set s ≤ set.length * szS s := by
 have := Ko set [s]
 simpa [ly, aN] using this
theorem Ux (set : List (List UInt8)) : ∀ (l : List State) (a : Int), 0 ≤ a → a + set.length * aN l < 1000000000000 → l.foldl (fun a s => IntKind.wrap .i64 (a + hasN set s)) a = a + ly set l
 | [], a, _, _ => by simp [ly]
 | s :: r, a, h0, h1 => by
  obtain ⟨p1, p2⟩ := yB set s
  obtain ⟨p3, p4⟩ := Ko set r
  simp only [aN, Int.mul_add] at h1
  simp only [List.foldl_cons, ly]
  rw [wr _ (by omega) (by omega), Ux set r _ (by omega) (by omega)]
  omega
theorem Tb {α β : Type} {a : List α} {b : List β} {i : Int} {e : α × β} (h : at? (a.zip b) i = some e) : at? a i = some e.1 ∧ at? b i = some e.2 := by
 unfold at? at *
 split at h
 ·cases h
 ·rename_i hi
  rw [if_neg hi, if_neg hi]
  rw [List.getElem?_zip_eq_some] at h
  exact h
def uy (a b : List (List UInt8)) : Bool := (((a.length : Nat) : Int) == ((b.length : Nat) : Int)) && !a.any fun e => !b.any fun y => e == y
def Ma (a b : List (List (List UInt8))) : Bool := decide (a.length = b.length) && (a.zip b).all fun p => uy p.1 p.2
def BY (a b : List (List UInt8)) : Bool := decide (a.length = b.length) && (a.zip b).all fun p => p.1 == p.2
def Mb (a b : List (List (List UInt8))) : Bool := decide (a.length = b.length) && (a.zip b).all fun p => BY p.1 p.2
def xl (x y : Cell) : Bool := Ma x.Sets y.Sets && Mb x.Msgs y.Msgs
def BZ (Cs : List Chart) (Is : List Inst) (x : Cert) (c : Cell) : Bool := (c.Sets.zip x.Insts).all fun p => (decide (((p.1.length : Nat) : Int) > 0) && !mT ((cE Cs Is p.2).getD c0).States p.1) == false
def Hg (Hs : List ai) (x : Cert) (c : Cell) : Bool := (c.Msgs.zip x.Chans).all fun p => match Hs.find? fun e => e.Name == p.2 with
 | some h => decide (((p.1.length : Nat) : Int) ≤ h.Cap)
 | none => false
def tf (Cs : List Chart) (Is : List Inst) (Hs : List ai) (x : Cert) (c : Cell) : Bool := decide (c.Sets.length = x.Insts.length) && decide (c.Msgs.length = x.Chans.length) && BZ Cs Is x c && Hg Hs x c
section
variable {R : Type} {N : Nat}
theorem Ry (set : List (List UInt8)) (hN : big ≤ N) (hset : (set.length : Int) ≤ 16386) : ∀ (d : Nat) (R : Type) (s : State) (k : Int → Option R), szS s < d → szS s < 20000 → (bF N d).sound_has R s.Kind s.Name s.Entry s.Exit s.Trans s.Kids s.At set k = k (hasN set s) := by
 have hb : big = 1000000000 := rfl
 intro d
 induction d with
 | zero => intro R s k h; have := ta s; omega
 | succ d ih =>
  intro R s k hd hs
  have hk := ka s; have hkl := db s.Kids
  have hM : (set.length : Int) * aN s.Kids ≤ 16386 * 20000 := by
   have h1 : (set.length : Int) * aN s.Kids ≤ set.length * 20000 := Int.mul_le_mul_of_nonneg_left (by omega) (by omega)
   have h2 : (set.length : Int) * 20000 ≤ 16386 * 20000 := Int.mul_le_mul_of_nonneg_right hset (by omega)
   omega
  rw [HB]
  unfold qu
  have hmem : ∀ (l : List State) (e : State), e ∈ l → szS e ≤ aN l := by
   intro l
   induction l with
   | nil => intro e h; cases h
   | cons x r ih =>
    intro e h
    have := bH r; have := ta x
    simp only [aN]
    rcases List.mem_cons.1 h with rfl | h
    ·omega
    ·have := ih e h; omega
  have c9 : ∀ a, 0 ≤ a → a ≤ 16386 → jJ (bF N d) N set a s.Kind s.Name s.Entry s.Exit s.Trans s.Kids s.At (fun y => k y) = k (a + ly set s.Kids) := by
   intro a h0 h1
   unfold jJ
   have := od (fun _ e (a : Int) => IntKind.wrap .i64 (a + hasN set e)) k (l := s.Kids) (by omega) (fun n i (a : Int) => lM (bF N d) N set s.Kids ((s.Kids.length : Nat) : Int) (fun y => k y) n a i) (fun n pre e rest a h h1 h2 => ?_) (fun n a => ?_) s.Kids [] a N rfl (by omega)
   ·rw [jt (fun (a : Int) e => IntKind.wrap .i64 (a + hasN set e)), Ux set _ _ h0 (by omega)] at this
    exact this
   ·have he : e ∈ s.Kids := by rw [h]; simp
    have := hmem _ _ he
    simp only [lM, oz, h1, h2, if_true, Option.bind_some]
    rw [ih _ _ _ (by omega) (by omega)]
   ·simp only [lM, oz]
    simp
  rw [Av]
  by_cases hz : s.Kids.length = 0
  ·have hz' : (((s.Kids.length : Nat) : Int) == 0) = true := by simp [hz]
   rw [if_pos hz', if_pos hz]
   have := od (fun _ e (a : Int) => if (e == s.Name) = true then w1 a else a) (fun y => jJ (bF N d) N set y s.Kind s.Name s.Entry s.Exit s.Trans s.Kids s.At (fun y => k y)) (l := set) (by omega) (fun n i (a : Int) => lL (bF N d) N set set ((set.length : Nat) : Int) s.Kind s.Name s.Entry s.Exit s.Trans s.Kids s.At (fun (y14 : Int) => jJ (bF N d) N set y14 s.Kind s.Name s.Entry s.Exit s.Trans s.Kids s.At (fun (y32 : Int) => k y32)) n a i) (fun n pre e rest a h h1 h2 => ?_) (fun n a => ?_) set [] 0 N rfl (by omega)
   ·rw [jt (fun (a : Int) e => if (e == s.Name) = true then w1 a else a), Ta _ _ _ (by omega) (by omega), Int.zero_add] at this
    have hfl := List.length_filter_le (fun e => e == s.Name) set
    rw [c9 _ (by omega) (by omega)] at this
    exact this
   ·simp only [lL, oy, h1, h2, if_true, Option.bind_some]
    split <;> rfl
   ·simp only [lL, oy]
    simp
  ·have hz' : ¬ (((s.Kids.length : Nat) : Int) == 0) = true := by simpa using hz
   rw [if_neg hz', if_neg hz]
   rw [c9 0 (by omega) (by omega)]
theorem Tc (set : List (List UInt8)) (hN : big ≤ N) (hset : (set.length : Int) ≤ 16386) (s : State) (k : Int → Option R) (hs : szS s < 20000) : sound_has N s.Kind s.Name s.Entry s.Exit s.Trans s.Kids s.At set k = k (hasN set s) := by
 have hb : big = 1000000000 := rfl
 unfold sound_has
 exact Ry set hN hset N R s k (by omega) hs
theorem Kp (set : List (List UInt8)) (s : State) : ok1 set s = if s.Kids.length = 0 then hasN set s == 1 else (tN (s.Kind == 2) set s.Kids 0 0).2 := by cases s; simp [ok1]
theorem Kq (set : List (List UInt8)) (hN : big ≤ N) (hset : (set.length : Int) ≤ 16386) : ∀ (d : Nat) (R : Type) (l : List State) (all : Bool) (k : Int → Bool → Option R), aN l < d → aN l < 20000 → (bQ N d).sound_active R l all set k = k (tN all set l 0 0).1 (tN all set l 0 0).2 := by
 have hb : big = 1000000000 := rfl
 intro d
 induction d with
 | zero => intro R l all k h; have := bH l; omega
 | succ d ih =>
  intro R l all k hd hs
  have hll := db l
  have hM : (set.length : Int) * aN l ≤ 16386 * 20000 := by
   have h1 : (set.length : Int) * aN l ≤ set.length * 20000 := Int.mul_le_mul_of_nonneg_left (by omega) (by omega)
   have h2 : (set.length : Int) * 20000 ≤ 16386 * 20000 := Int.mul_le_mul_of_nonneg_right hset (by omega)
   omega
  rw [Dw]
  unfold lj
  have key : ∀ (rest pre : List State) (n : Nat) (sum so : Int), l = pre ++ rest → rest.length < n → 0 ≤ sum → sum + set.length * aN rest < 1000000000 → 0 ≤ so → so + rest.length < 1000000000 →
    fR (bQ N d) N all set l ((l.length : Nat) : Int) (fun (y13 : Int) (y14 : Int) => (ifB all false (some (y14 == 1)) (some true)).bind fun c17 => k y13 c17) (fun (y15 : Int) (y16 : Bool) => k y15 y16) n sum so pre.length = k (tN all set rest sum so).1 (tN all set rest sum so).2 := by
   intro rest
   induction rest with
   | nil =>
    intro pre n sum so h hn _ _ _ _
    obtain ⟨n, rfl⟩ : ∃ m, n = m + 1 := ⟨n - 1, by omega⟩
    have : l = pre := by simpa using h
    subst this
    simp only [fR, kO, tN, aZ, Option.bind_some]
    simp
   | cons e r ihr =>
    intro pre n sum so h hn q1 q2 q3 q4
    obtain ⟨n, rfl⟩ : ∃ m, n = m + 1 := ⟨n - 1, by omega⟩
    have hlen : l.length = pre.length + (r.length + 1) := by rw [h]; simp
    have he : szS e + aN r ≤ aN l := by rw [h, xu]; have := bH pre; simp only [aN]; omega
    have hk := ka e; have hrp := bH r
    obtain ⟨p1, p2⟩ := yB set e
    have p3 : (0 : Int) ≤ set.length * aN r := Int.mul_nonneg (by omega) hrp
    simp only [aN, Int.mul_add] at q2
    simp only [List.length_cons] at q4
    have hat : at? l pre.length = some e := bf (by omega) (by rw [h]; simp)
    have hdc : decide (((pre.length : Nat) : Int) < ((l.length : Nat) : Int)) = true := by simp; omega
    have hr : IntKind.wrap .i64 (((pre.length : Nat) : Int) + 1) = (((pre ++ [e]).length : Nat) : Int) := by rw [wr _ (by omega) (by omega)]; simp
    simp only [fR, kO, hdc, hat, if_true, Option.bind_some]
    rw [Tc set hN hset _ _ (by omega)]
    simp only [ax, Option.bind_some, tN, Kp, hr, wr (sum + hasN set e) (by omega) (by omega), wr (so + 1) (by omega) (by omega)]
    by_cases hc : (hasN set e == 0 && !all) = true
    ·rw [if_pos hc, if_pos hc]
     exact ihr (pre ++ [e]) n sum so (by rw [h]; simp) (by simp at hn; omega) q1 (by omega) q3 (by omega)
    ·rw [if_neg hc, if_neg hc]
     have fin : fR (bQ N d) N all set l ((l.length : Nat) : Int) (fun (y13 : Int) (y14 : Int) => (ifB all false (some (y14 == 1)) (some true)).bind fun c17 => k y13 c17) (fun (y15 : Int) (y16 : Bool) => k y15 y16) n (sum + hasN set e) (so + 1) (((pre ++ [e]).length : Nat) : Int) = k (tN all set r (sum + hasN set e) (so + 1)).1 (tN all set r (sum + hasN set e) (so + 1)).2 :=
      ihr (pre ++ [e]) n _ _ (by rw [h]; simp) (by simp at hn; omega) (by omega) (by omega) (by omega) (by omega)
     by_cases hz : e.Kids.length = 0
     ·have hz' : (((e.Kids.length : Nat) : Int) == 0) = true := by simp [hz]
      simp only [hz', if_true]
      simp only [hz, if_true]
      by_cases h1 : hasN set e = 1
      ·simp only [h1, bne_self_eq_false, Bool.false_eq_true, if_false, beq_self_eq_true, if_true]
       rw [h1] at fin
       exact fin
      ·have h2 : (hasN set e != 1) = true := by simpa using h1
       have h3 : (hasN set e == 1) = false := by simpa using h1
       simp only [h2, h3, if_true, Bool.false_eq_true, if_false]
     ·have hz' : (((e.Kids.length : Nat) : Int) == 0) = false := by simpa using hz
      simp only [hz', Bool.false_eq_true, if_false]
      simp only [hz, if_false]
      rw [ih _ _ _ _ (by omega) (by omega)]
      cases hq : (tN (e.Kind == 2) set e.Kids 0 0).2 with
      | true =>
       simp only [Bool.not_true, Bool.false_eq_true, if_false, if_true]
       exact fin
      | false => simp only [Bool.not_false, if_true, Bool.false_eq_true, if_false]
  have := key l [] N 0 0 rfl (by omega) (by omega) (by omega) (by omega) (by omega)
  exact this
theorem MX (set : List (List UInt8)) (hN : big ≤ N) (hset : (set.length : Int) ≤ 16386) (l : List State) (k : Bool → Option R) (hl : aN l < 20000) : rf N l set k = k (mT l set) := by
 have hb : big = 1000000000 := rfl
 unfold rf sound_active
 rw [Kq set hN hset N _ _ _ _ (by omega) hl]
 simp only [ax, Option.bind_some]
 rfl
end
section
variable {R : Type} {N : Nat}
theorem Mc {E : Type} (p : E → Bool) (l : List E) : l.all p = !l.any fun e => !p e := by
 induction l with
 | nil => rfl
 | cons e r ih => simp only [List.all_cons, List.any_cons, ih]; cases p e <;> simp
theorem FJ {α β : Type} (a : List α) (b : List β) (good : α × β → Bool) (K : Bool → Option R) (hl : a.length < big) (hab : a.length = b.length) (G : Nat → Int → Option R)
  (hG : ∀ (n : Nat) (i : Int) e, 0 ≤ i → i < a.length → decide (i < ((a.length : Nat) : Int)) = true → at? a i = some e.1 → at? b i = some e.2 → e ∈ a.zip b → G (n + 1) i = if (!good e) = true then K false else G n (IntKind.wrap .i64 (i + 1)))
  (h0 : ∀ (n : Nat) (i : Int), decide (i < ((a.length : Nat) : Int)) = false → G (n + 1) i = K true) (N : Nat) (hN : a.length < N) : G N 0 = K ((a.zip b).all good) := by
 have hz : (a.zip b).length = a.length := by simp [hab]
 have := search (l := a.zip b) (fun e => !good e) (fun j => K (!decide (j ≥ 0))) (by omega) G (fun n i e q0 q1 q2 q3 q4 => ?_) (fun n i h => ?_) N (by omega)
 ·rw [this, bj, Mc]
 ·rw [hz] at q1 q2
  have q3' := Tb q3
  rw [hG n i e q0 q1 q2 q3'.1 q3'.2 (List.mem_of_getElem? q4)]
  split
  ·simp [q0]
  ·rfl
 ·rw [hz] at h
  rw [h0 n i h]
  simp
theorem OT (s b : List (List UInt8)) (k : Bool → Option R) (hN : big ≤ N) (hs : s.length < big) (hb : b.length < big) : dW N s b k = k (s.any fun e => !b.any fun y => e == y) := by
 unfold dW ji
 have := search (fun e => !b.any fun y => e == y) (fun r1 => k (decide (r1 ≥ 0))) hs (fun n i => bV N s ((s.length : Nat) : Int) b (k (decide (((-1 : Int)) ≥ 0))) (fun y => k (decide (y ≥ 0))) n i) (fun n i e h0 h1 h2 h3 h4 => ?_) (fun n i h => ?_) N (by omega)
 ·rw [← bj]; exact this
 ·simp only [bV, dn, h2, h3, if_true, Option.bind_some]
  unfold qK
  rw [uv _ _ _ hN hb]
 ·simp only [bV, dn, h]
  rfl
theorem Kr (a b : List (List UInt8)) (k : Bool → Option R) (hN : big ≤ N) (hs : a.length < big) (hb : b.length < big) : pL N a b k = k (uy a b) := by
 unfold pL
 simp only [OT _ _ _ hN hs hb, ax, Option.bind_some]
 rfl
theorem Td (a b : List (List (List UInt8))) (k : Bool → Option R) (hN : big ≤ N) (ha : zF a) (hb : zF b) : eE N a b k = k (Ma a b) := by
 have hbig : big = 1000000000 := rfl
 have hB : B = 16386 := rfl
 unfold eE Ma
 by_cases h : a.length = b.length
 ·have h' : ((((a.length : Nat) : Int) != ((b.length : Nat) : Int))) = false := by simp [h]
  simp only [h', Bool.false_eq_true, if_false]
  rw [decide_eq_true h, Bool.true_and]
  have h1 := ha.1
  refine FJ a b (fun p => uy p.1 p.2) k (by omega) h (fun n i => bG N b a ((a.length : Nat) : Int) (k true) (fun y => k y) n i) (fun n i e h0 h1 h2 h3 h4 h5 => ?_) (fun n i h => ?_) N (by omega)
  ·simp only [bG, cJ, h2, h3, h4, if_true, Option.bind_some]
   have e1 := ha.2 e.1 (List.of_mem_zip h5).1
   have e2 := hb.2 e.2 (List.of_mem_zip h5).2
   rw [Kr _ _ _ hN (by omega) (by omega)]
  ·simp only [bG, cJ, h]
   rfl
 ·have h' : ((((a.length : Nat) : Int) != ((b.length : Nat) : Int))) = true := by simp; omega
  simp only [h', if_true]
  rw [decide_eq_false h, Bool.false_and]
theorem Te (a b : List (List UInt8)) (k : Bool → Option R) (hN : big ≤ N) (ha : a.length < big) : jb N a b k = k (BY a b) := by
 have hbig : big = 1000000000 := rfl
 unfold jb BY
 by_cases h : a.length = b.length
 ·have h' : ((((a.length : Nat) : Int) != ((b.length : Nat) : Int))) = false := by simp [h]
  simp only [h', Bool.false_eq_true, if_false]
  rw [decide_eq_true h, Bool.true_and]
  refine FJ a b (fun p => p.1 == p.2) k (by omega) h (fun n i => cK N a b ((a.length : Nat) : Int) (k true) (fun y => k y) n i) (fun n i e h0 h1 h2 h3 h4 h5 => ?_) (fun n i h => ?_) N (by omega)
  ·simp only [cK, eU, h2, h3, h4, if_true, Option.bind_some]
  ·simp only [cK, eU, h]
   rfl
 ·have h' : ((((a.length : Nat) : Int) != ((b.length : Nat) : Int))) = true := by simp; omega
  simp only [h', if_true]
  rw [decide_eq_false h, Bool.false_and]
theorem Tf (a b : List (List (List UInt8))) (k : Bool → Option R) (hN : big ≤ N) (ha : zF a) : dE N a b k = k (Mb a b) := by
 have hbig : big = 1000000000 := rfl
 have hB : B = 16386 := rfl
 unfold dE Mb
 by_cases h : a.length = b.length
 ·have h' : ((((a.length : Nat) : Int) != ((b.length : Nat) : Int))) = false := by simp [h]
  simp only [h', Bool.false_eq_true, if_false]
  rw [decide_eq_true h, Bool.true_and]
  have h1 := ha.1
  refine FJ a b (fun p => BY p.1 p.2) k (by omega) h (fun n i => bu N b a ((a.length : Nat) : Int) (k true) (fun y => k y) n i) (fun n i e h0 h1 h2 h3 h4 h5 => ?_) (fun n i h => ?_) N (by omega)
  ·simp only [bu, cx, h2, h3, h4, if_true, Option.bind_some]
   have e1 := ha.2 e.1 (List.of_mem_zip h5).1
   rw [Te _ _ _ hN (by omega)]
  ·simp only [bu, cx, h]
   rfl
 ·have h' : ((((a.length : Nat) : Int) != ((b.length : Nat) : Int))) = true := by simp; omega
  simp only [h', if_true]
  rw [decide_eq_false h, Bool.false_and]
theorem Ir (s : List Cell) (c : Cell) (k : Bool → Option R) (hN : big ≤ N) (hs : s.length < big) (hc : rL c) (hcs : ∀ y ∈ s, rL y) : eV N s c.Rank c.Sets c.Msgs c.At k = k (s.any fun y => xl c y) := by
 unfold eV kE
 have := search (fun y => xl c y) (fun r1 => k (decide (r1 ≥ 0))) hs (fun n i => cn N s ((s.length : Nat) : Int) c.Rank c.Sets c.Msgs c.At (k (decide (((-1 : Int)) ≥ 0))) (fun y => k (decide (y ≥ 0))) n i) (fun n i e h0 h1 h2 h3 h4 => ?_) (fun n i h => ?_) N (by omega)
 ·rw [← bj]; exact this
 ·have he := hcs e (List.mem_of_getElem? h4)
  simp only [cn, dX, h2, h3, if_true, Option.bind_some]
  unfold lk xY
  rw [Td _ _ _ hN hc.1 he.1]
  simp only [Tf _ _ _ hN hc.2, ax, Option.bind_some]
  rfl
 ·simp only [cn, dX, h]
  rfl
theorem Aw {Cs : List Chart} {Is : List Inst} {P : Chart → Prop} (h0 : P c0) (h : ∀ c ∈ Cs, P c) (n : List UInt8) : P ((cE Cs Is n).getD c0) := by
 cases hq : cE Cs Is n with
 | none => exact h0
 | some c =>
  unfold cE at hq
  obtain ⟨i, _, h2⟩ := Option.bind_eq_some_iff.1 hq
  exact h c (List.mem_of_find?_eq_some h2)
theorem OU : Eb c0 := by
 refine ⟨⟨?_, ?_, ?_⟩, ?_⟩ <;> simp [c0, aN]
theorem Rz (x : Cert) (c : Cell) (A : Int) (Cs : List Chart) (Is : List Inst) (Hs : List ai) (Es : List Cert) (C At : Int) (k : Bool → Option R) (hN : big ≤ N) (hc : Cs.length < big) (hi : Is.length < big) (hh : Hs.length < big) (hcs : ∀ c ∈ Cs, Eb c) (hcell : rL c) :
  jK N x.Name x.Inst x.Req x.Resp x.Insts x.Chans x.Cells x.At c.Rank c.Sets c.Msgs c.At A Cs Is Hs Es C At k = k (tf Cs Is Hs x c) := by
 have hbig : big = 1000000000 := rfl
 have hB : B = 16386 := rfl
 unfold jK tf
 simp only [aZ, Option.bind_some]
 by_cases h1 : c.Sets.length = x.Insts.length
 ·by_cases h2 : c.Msgs.length = x.Chans.length
  ·have e1 : (((((c.Sets.length : Nat) : Int) != ((x.Insts.length : Nat) : Int))) || ((((c.Msgs.length : Nat) : Int) != ((x.Chans.length : Nat) : Int)))) = false := by simp [h1, h2]
   simp only [e1, Bool.false_eq_true, if_false]
   rw [decide_eq_true h1, decide_eq_true h2, Bool.true_and, Bool.true_and]
   have l1 := hcell.1.1; have l2 := hcell.2.1
   have hm : ∀ kk : Bool → Option R, bz N c.Msgs ((c.Msgs.length : Nat) : Int) A Cs Is Hs Es C At x.Name x.Inst x.Req x.Resp x.Insts x.Chans x.Cells x.At (kk true) (fun y => kk y) N 0 = kk (Hg Hs x c) := by
    intro kk
    refine FJ c.Msgs x.Chans (fun p => match Hs.find? fun e => e.Name == p.2 with
 | some h => decide (((p.1.length : Nat) : Int) ≤ h.Cap)
 | none => false) kk (by omega) h2 (fun n i => bz N c.Msgs ((c.Msgs.length : Nat) : Int) A Cs Is Hs Es C At x.Name x.Inst x.Req x.Resp x.Insts x.Chans x.Cells x.At (kk true) (fun y => kk y) n i) (fun n i e h0 h1 h2 h3 h4 h5 => ?_) (fun n i h => ?_) N (by omega)
    ·simp only [bz, fJ, h2, h3, h4, if_true, Option.bind_some]
     unfold fQ
     rw [BV _ _ _ hN hh]
     by_cases hq : idx (fun y => y.Name == e.2) Hs < 0
     ·simp only [hq, decide_true, rz hq, aZ, Bool.true_or, Option.bind_some]
      simp [ifB]
     ·obtain ⟨y, y1, y2⟩ := qV hq
      simp only [hq, decide_false, y1, y2, aZ, Bool.false_or, Option.bind_some]
      congr 1
      simp
    ·simp only [bz, fJ, h]
     rfl
   have hs := FJ c.Sets x.Insts (fun p => (decide (((p.1.length : Nat) : Int) > 0) && !mT ((cE Cs Is p.2).getD c0).States p.1) == false) (fun b => if b = true then bz N c.Msgs ((c.Msgs.length : Nat) : Int) A Cs Is Hs Es C At x.Name x.Inst x.Req x.Resp x.Insts x.Chans x.Cells x.At (k true) (fun y => k y) N 0 else k false) (by omega) h1 (fun n i => cZ N c.Sets ((c.Sets.length : Nat) : Int) A Cs Is Hs Es C At x.Name x.Inst x.Req x.Resp x.Insts x.Chans x.Cells x.At c.Rank c.Sets c.Msgs c.At (bz N c.Msgs ((c.Msgs.length : Nat) : Int) A Cs Is Hs Es C At x.Name x.Inst x.Req x.Resp x.Insts x.Chans x.Cells x.At (k true) (fun y => k y) N 0) (fun y => k y) n i) (fun n i e h0 h1 h2 h3 h4 h5 => ?_) (fun n i h => ?_) N (by omega)
   ·refine Eq.trans hs ?_
    unfold BZ
    cases hz : (c.Sets.zip x.Insts).all (fun p => (decide (((p.1.length : Nat) : Int) > 0) && !mT ((cE Cs Is p.2).getD c0).States p.1) == false) with
    | true => simp only [if_true, Bool.true_and]; exact hm k
    | false => simp
   ·have e1 := hcell.1.2 e.1 (List.of_mem_zip h5).1
    have hst : aN ((cE Cs Is e.2).getD c0).States < 20000 := (Aw OU hcs e.2).2
    simp only [cZ, fI, h2, h3, h4, if_true, Option.bind_some]
    simp only [rH _ _ _ _ _ _ _ _ _ hN hc hi, MX e.1 hN (by omega) _ _ hst, ax, Option.bind_some]
    cases (decide (((e.1.length : Nat) : Int) > 0) && !mT ((cE Cs Is e.2).getD c0).States e.1) <;> rfl
   ·simp only [cZ, fI, h]
    rfl
  ·have e1 : (((((c.Sets.length : Nat) : Int) != ((x.Insts.length : Nat) : Int))) || ((((c.Msgs.length : Nat) : Int) != ((x.Chans.length : Nat) : Int)))) = true := by
    simp; omega
   simp only [e1, if_true]
   rw [decide_eq_false h2]; simp
 ·have e1 : (((((c.Sets.length : Nat) : Int) != ((x.Insts.length : Nat) : Int))) || ((((c.Msgs.length : Nat) : Int) != ((x.Chans.length : Nat) : Int)))) = true := by
   simp; omega
  simp only [e1, if_true]
  rw [decide_eq_false h1]; simp
end
def Hh (Cs : List Chart) (Is : List Inst) (a : Int) (pre : List (List UInt8)) (n : List UInt8) : Flt := orF (chk (cE Cs Is n).isSome 7 a) (orF (chk (!pre.any fun e => n == e) 8 a) (chk (!(flL ((cE Cs Is n).getD c0).States).any isH) 17 a))
def MY (Cs : List Chart) (Is : List Inst) (x : Cert) : Flt := chk ((x.Insts.any fun e => x.Inst == e) && (flL ((cE Cs Is x.Inst).getD c0).States).any (fun e => e.Name == x.Req) && (flL ((cE Cs Is x.Inst).getD c0).States).any (fun e => e.Name == x.Resp)) 7 x.At
def Dn (Hs : List ai) (x : Cert) (pre : List (List UInt8)) (n : List UInt8) : Flt := orF (chk (Hs.any fun e => e.Name == n) 7 x.At) (orF (chk (!pre.any fun e => n == e) 8 x.At) (match Hs.find? fun e => e.Name == n with
 | some h => chk ((x.Insts.any fun e => h.From == e) && x.Insts.any fun e => h.To == e) 17 x.At
 | none => (0, 0)))
def qc (Cs : List Chart) (Is : List Inst) (Hs : List ai) (x : Cert) (pre : List Cell) (c : Cell) : Flt := orF (chk (decide (c.Rank ≥ 0) && decide (c.Rank ≤ 64)) 16 c.At) (orF (chk (tf Cs Is Hs x c) 18 c.At) (chk (!pre.any fun y => xl c y) 8 c.At))
def Gt (Cs : List Chart) (Is : List Inst) (Hs : List ai) (x : Cert) : Flt := orF (gP (Hh Cs Is x.At) [] x.Insts) (orF (MY Cs Is x) (orF (chk (!(x.Req == x.Resp)) 17 x.At) (orF (gP (Dn Hs x) [] x.Chans) (gP (qc Cs Is Hs x) [] x.Cells))))
section
variable {R : Type} {N : Nat}
theorem RA (x : Cert) (A : Int) (Cs : List Chart) (Is : List Inst) (Hs : List ai) (Es : List Cert) (C At : Int) (k : Int → Int → Option R) (hN : big ≤ N) (hc : Cs.length < big) (hi : Is.length < big) (hh : Hs.length < big) (hcs : ∀ c ∈ Cs, Eb c) (hx : xx x) :
  jM N x.Name x.Inst x.Req x.Resp x.Insts x.Chans x.Cells x.At A Cs Is Hs Es C At k = kf k (orF (C, At) (Gt Cs Is Hs x)) := by
 have hbig : big = 1000000000 := rfl
 have hB : B = 16386 := rfl
 obtain ⟨x1, x2, x3, x4⟩ := hx
 have hst : ∀ n, aN ((cE Cs Is n).getD c0).States < 20000 := fun n => (Aw OU hcs n).2
 have hfl : ∀ n, (flL ((cE Cs Is n).getD c0).States).length < big := fun n => by
  obtain ⟨_, h, _⟩ := Hf ((cE Cs Is n).getD c0).States
  have := hst n; omega
 -- cells
 have cells : ∀ f : Flt, cu N x.Cells ((x.Cells.length : Nat) : Int) A Cs Is Hs Es x.Name x.Inst x.Req x.Resp x.Insts x.Chans x.Cells x.At (fun y z => k y z) N 0 f.1 f.2 = kf k (orF f (gP (qc Cs Is Hs x) [] x.Cells)) := by
  intro f
  have := od (fun pre c a => orF a (qc Cs Is Hs x pre c)) (kf k) (l := x.Cells) (by omega) (fun n i (a : Flt) => cu N x.Cells ((x.Cells.length : Nat) : Int) A Cs Is Hs Es x.Name x.Inst x.Req x.Resp x.Insts x.Chans x.Cells x.At (fun y z => k y z) n i a.1 a.2) (fun n pre c rest a h h1 h2 => ?_) (fun n a => ?_) x.Cells [] f N rfl (by omega)
  ·rw [km] at this
   exact this
  ·have hp : pre.length ≤ x.Cells.length := by rw [h]; simp
   have hcm : c ∈ x.Cells := by rw [h]; simp
   simp only [cu, fM, h1, h2, if_true, Option.bind_some]
   rw [uu, bo _ _ _ _ _ _ _ _ _ _ (by decide), bc, Rz x c A Cs Is Hs Es _ _ _ hN hc hi hh hcs (x4 c hcm), bo _ _ _ _ _ _ _ _ _ _ (by decide), bc, if_pos (g01 hp), jZ h, Ir _ _ _ hN (by omega) (x4 c hcm) (fun y hy => x4 y (by rw [h]; exact List.mem_append_left _ hy)), bo _ _ _ _ _ _ _ _ _ _ (by decide), bc]
   unfold qc
   simp only [Prod.eta, aO]
  ·simp only [cu, fM]
   simp [kf]
 have chans : ∀ f : Flt, cr N x.Chans ((x.Chans.length : Nat) : Int) A Cs Is Hs Es x.Name x.Inst x.Req x.Resp x.Insts x.Chans x.Cells x.At (fun (y121 : Int) (y122 : Int) =>
   dY N A Cs Is Hs Es y121 y122 x.Name x.Inst x.Req x.Resp x.Insts x.Chans x.Cells x.At (k y121 y122) (fun y z => k y z)) N 0 f.1 f.2 = kf k (orF (orF f (gP (Dn Hs x) [] x.Chans)) (gP (qc Cs Is Hs x) [] x.Cells)) := by
  intro f
  have := od (fun pre c a => orF a (Dn Hs x pre c)) (fun a : Flt => kf k (orF a (gP (qc Cs Is Hs x) [] x.Cells))) (l := x.Chans) (by omega) (fun n i (a : Flt) => cr N x.Chans ((x.Chans.length : Nat) : Int) A Cs Is Hs Es x.Name x.Inst x.Req x.Resp x.Insts x.Chans x.Cells x.At (fun (y121 : Int) (y122 : Int) =>
   dY N A Cs Is Hs Es y121 y122 x.Name x.Inst x.Req x.Resp x.Insts x.Chans x.Cells x.At (k y121 y122) (fun y z => k y z)) n i a.1 a.2) (fun n pre c rest a h h1 h2 => ?_) (fun n a => ?_) x.Chans [] f N rfl (by omega)
  ·rw [km] at this
   exact this
  ·have hp : pre.length ≤ x.Chans.length := by rw [h]; simp
   simp only [cr, fL, h1, h2, if_true, Option.bind_some]
   unfold fQ
   rw [BV _ _ _ hN hh]
   dsimp only
   rw [bo _ _ _ _ _ _ _ _ _ _ (by decide), bc, if_pos (g01 hp), jZ h, uv _ _ _ hN (by omega), bo _ _ _ _ _ _ _ _ _ _ (by decide), bc]
   unfold Dn
   by_cases hq : idx (fun y => y.Name == c) Hs < 0
   ·have hq' : ¬ idx (fun y => y.Name == c) Hs ≥ 0 := by omega
    simp only [bj, rz hq, mF, Prod.eta, aO]
    have ha : (Hs.any fun y => y.Name == c) = false := by rw [← bj]; simp [hq']
    rw [ha]
    simp
   ·have hq' : idx (fun y => y.Name == c) Hs ≥ 0 := by omega
    obtain ⟨y, y1, y2⟩ := qV hq
    have ha : (Hs.any fun y => y.Name == c) = true := by rw [← bj]; simp [hq']
    simp only [bj, ha, y1, y2, if_true, Option.bind_some]
    rw [uv _ _ _ hN (by omega)]
    simp only [uv _ _ _ hN (show x.Insts.length < big by omega), ax, Option.bind_some]
    rw [bo _ _ _ _ _ _ _ _ _ _ (by decide), bc]
    simp only [Prod.eta, aO]
  ·simp only [cr, fL]
   simp only [Int.lt_irrefl, decide_false, Bool.false_eq_true, if_false]
   unfold dY
   by_cases hz : a.1 = 0
   ·have : (a.1 != 0) = false := by simp [hz]
    simp only [this, Bool.false_eq_true, if_false]
    exact cells a
   ·have : (a.1 != 0) = true := by simp [hz]
    simp only [this, if_true]
    rw [aL _ hz]; rfl
 have mems := od (fun pre n a => orF a (Hh Cs Is x.At pre n)) (fun a : Flt => kf k (orF a (orF (MY Cs Is x) (orF (chk (!(x.Req == x.Resp)) 17 x.At) (orF (gP (Dn Hs x) [] x.Chans) (gP (qc Cs Is Hs x) [] x.Cells)))))) (l := x.Insts) (by omega) (fun n i (a : Flt) => da N x.Insts ((x.Insts.length : Nat) : Int) A Cs Is Hs Es x.Name x.Inst x.Req x.Resp x.Insts x.Chans x.Cells x.At (fun (y38 : Int) (y39 : Int) =>
 hI N A Cs Is Hs Es y38 y39 x.Name x.Inst x.Req x.Resp x.Insts x.Chans x.Cells x.At (fun (y174 : Int) (y175 : Int) =>
  k y174 y175)
   (fun (y176 : Int) (y177 : Int) =>
  k y176 y177)) n i a.1 a.2) (fun n pre c rest a h h1 h2 => ?_) (fun n a => ?_) x.Insts [] (C, At) N rfl (by omega)
 ·unfold jM
  refine Eq.trans mems ?_
  rw [km]
  unfold Gt
  simp only [aO]
 ·have hp : pre.length ≤ x.Insts.length := by rw [h]; simp
  simp only [da, fK, h1, h2, if_true, Option.bind_some]
  simp only [rH _ _ _ _ _ _ _ _ _ hN hc hi]
  rw [bo _ _ _ _ _ _ _ _ _ _ (by decide), bc, if_pos (g01 hp), jZ h, uv _ _ _ hN (by omega), bo _ _ _ _ _ _ _ _ _ _ (by decide), bc, LZ hN _ _ (hst c), OH _ _ hN (hfl c), bo _ _ _ _ _ _ _ _ _ _ (by decide), bc]
  unfold Hh
  simp only [Prod.eta, aO]
 ·simp only [da, fK]
  simp only [Int.lt_irrefl, decide_false, Bool.false_eq_true, if_false]
  unfold hI
  simp only [rH _ _ _ _ _ _ _ _ _ hN hc hi]
  rw [LZ hN _ _ (hst x.Inst), uv _ _ _ hN (by omega)]
  unfold iF nB
  simp only [Ip _ _ _ hN (hfl x.Inst), bj, ax, Option.bind_some]
  rw [bo _ _ _ _ _ _ _ _ _ _ (by decide), bc]
  unfold jL
  rw [bo _ _ _ _ _ _ _ _ _ _ (by decide), bc]
  refine Eq.trans (chans _) ?_
  unfold MY
  simp only [Prod.eta, aO]
end
def tO (pre : List Chart) (c : Chart) : Flt := orF (chk (!pre.any fun e => e.Name == c.Name) 8 c.At) (chF c)
def xm (Cs : List Chart) (Is : List Inst) (Hs : List ai) (pre : List Cert) (x : Cert) : Flt := orF (chk (!pre.any fun e => e.Name == x.Name) 8 x.At) (Gt Cs Is Hs x)
def RB (s : System) : Flt := orF (chk (decide (s.Age ≥ 1) && decide (s.Age ≤ 65536)) 16 0) (orF (chk (decide (((s.Insts.length : Nat) : Int) > 0)) 7 0) (orF (gP tO [] s.Charts) (orF (gP (wF s.Charts) [] s.Insts) (orF (gP (wG s.Charts s.Insts) [] s.Chans) (orF (gP (fun _ x => te s.Charts s.Insts s.Chans x) [] s.Insts) (gP (xm s.Charts s.Insts s.Chans) [] s.Certs))))))
theorem Dq.to {c : Chart} (h : Dq c) : Eb c := ⟨⟨h.1, h.2.1, h.2.2.1⟩, by have := h.2.2.2.1; omega⟩
section
variable {R : Type} {N : Nat}
theorem qd (m : Int) (pre : List af) (e : af) : Nf (mo m pre e) := ao (aK _ _ (by decide)) (aK _ _ (by decide))
theorem mU (P : Pr) : ∀ l, Nf (uw P l) := by
 intro l
 exact Expr.rec_1 (motive_1 := fun e => Nf (exF P e)) (motive_2 := fun l => Nf (uw P l)) (fun k n s es a ih => by simp only [exF]; exact ao (aK _ _ (by decide)) ih) (by simp only [uw]; exact sY) (fun e r h1 h2 => by simp only [uw]; exact ao h1 h2) l
theorem dG (P : Pr) : ∀ l, Nf (kA P l) := by
 intro l
 exact Act.rec_1 (motive_1 := fun e => Nf (acF P e)) (motive_2 := fun l => Nf (kA P l)) (fun k n s es x t e a ih1 ih2 => by simp only [acF]; exact ao (aK _ _ (by decide)) (ao (aK _ _ (by decide)) (ao (mU P _) (ao ih1 ih2)))) (by simp only [kA]; exact sY) (fun e r h1 h2 => by simp only [kA]; exact ao h1 h2) l
theorem Ks (P : Pr) (n : Int) (t : Trans) : Nf (trF P n t) := ao (aK _ _ (by decide)) (ao (aK _ _ (by decide)) (ao (mU P _) (dG P _)))
theorem yC (P : Pr) : ∀ (l : List Trans) (n : Int), Nf (yS P n l)
 | [], _ => sY
 | t :: r, n => ao (Ks P _ t) (yC P r _)
theorem tP (P : Pr) : ∀ (l : List State) (n : Int), Nf (inF P n l)
 | [], _ => sY
 | s :: r, n => by
  unfold inF
  split
  ·exact tP P r n
  ·exact ao (dG P _) (ao (dG P _) (ao (yC P _ _) (tP P r _)))
theorem RC (top : Bool) (out : List State) (s : State) : Nf (iq top out s) := ao (aK _ _ (by decide)) (ao (aK _ _ (by decide)) (aK _ _ (by decide)))
theorem tQ : ∀ (l : List State) (top : Bool) (out : List State), Nf (trL top out l) := by
 intro l
 exact State.rec_1 (motive_1 := fun s => ∀ (top : Bool) (out : List State), Nf (tr1 top out s)) (motive_2 := fun l => ∀ (top : Bool) (out : List State), Nf (trL top out l)) (fun k n en ex tr kids a ih top out => by rw [zC]; exact ao (RC _ _ _) (ih _ _)) (fun top out => by simp only [trL]; exact sY) (fun s r h1 h2 top out => by simp only [trL]; exact ao (h1 _ _) (h2 _ _)) l
theorem MZ (c : Chart) : Nf (xi c) := ao (aK _ _ (by decide)) (ao (aK _ _ (by decide)) (ao (fv (qd _) _ _) (ao (fv (qd _) _ _) (fv (qd _) _ _))))
theorem OV (c : Chart) : Nf (chF c) := ao (MZ c) (ao (tQ _ _ _) (tP _ _ _))
theorem Ca (pre : List Chart) (c : Chart) : Nf (tO pre c) := ao (aK _ _ (by decide)) (OV c)
theorem Ax (Cs : List Chart) (pre : List Inst) (x : Inst) : Nf (wF Cs pre x) := ao (aK _ _ (by decide)) (ao (aK _ _ (by decide)) (aK _ _ (by decide)))
theorem Ay (Cs : List Chart) (Is : List Inst) (pre : List ai) (x : ai) : Nf (wG Cs Is pre x) := ao (aK _ _ (by decide)) (ao (aK _ _ (by decide)) (ao (aK _ _ (by decide)) (aK _ _ (by decide))))
theorem xn (Cs : List Chart) (Is : List Inst) (Hs : List ai) (x : Inst) : Nf (te Cs Is Hs x) := fv (fun _ _ => aK _ _ (by decide)) _ _
theorem DH (Cs : List Chart) (Is : List Inst) (a : Int) (pre : List (List UInt8)) (n : List UInt8) : Nf (Hh Cs Is a pre n) := ao (aK _ _ (by decide)) (ao (aK _ _ (by decide)) (aK _ _ (by decide)))
theorem Hi (Cs : List Chart) (Is : List Inst) (x : Cert) : Nf (MY Cs Is x) := aK _ _ (by decide)
theorem yD (Hs : List ai) (x : Cert) (pre : List (List UInt8)) (n : List UInt8) : Nf (Dn Hs x pre n) := by
 refine ao (aK _ _ (by decide)) (ao (aK _ _ (by decide)) ?_)
 split
 ·exact aK _ _ (by decide)
 ·exact sY
theorem Ec (Cs : List Chart) (Is : List Inst) (Hs : List ai) (x : Cert) (pre : List Cell) (c : Cell) : Nf (qc Cs Is Hs x pre c) := ao (aK _ _ (by decide)) (ao (aK _ _ (by decide)) (aK _ _ (by decide)))
theorem It (Cs : List Chart) (Is : List Inst) (Hs : List ai) (x : Cert) : Nf (Gt Cs Is Hs x) := ao (fv (DH _ _ _) _ _) (ao (Hi _ _ _) (ao (aK _ _ (by decide)) (ao (fv (yD _ _) _ _) (fv (Ec _ _ _ _) _ _))))
theorem Az (Cs : List Chart) (Is : List Inst) (Hs : List ai) (pre : List Cert) (x : Cert) : Nf (xm Cs Is Hs pre x) := ao (aK _ _ (by decide)) (It _ _ _ _)
theorem OW (s : System) (k : Int → Int → Option R) (hN : big ≤ N) (hs : Ew s) : sound_Check N s.Age s.Charts s.Insts s.Chans s.Certs k = kf k (RB s) := by
 have hbig : big = 1000000000 := rfl
 have hB : B = 16386 := rfl
 obtain ⟨A, Cs, Is, Hs, Es⟩ := s
 obtain ⟨b1, b2, b3, b4, b5, b6⟩ := hs
 simp only at b1 b2 b3 b4 b5 b6
 have hcs : ∀ c ∈ Cs, Eb c := fun c h => (b5 c h).to
 have hc : Cs.length < big := by omega
 have hi : Is.length < big := by omega
 have hh : Hs.length < big := by omega
 have he : Es.length < big := by omega
 unfold sound_Check
 simp only [ax, Option.bind_some]
 rw [bo _ _ _ _ _ _ _ _ _ _ (by decide), bc, bo _ _ _ _ _ _ _ _ _ _ (by decide), bc]
 have l8 := od (fun pre x a => orF a (xm Cs Is Hs pre x)) (kf k) he (fun n i (a : Flt) => de N Es ((Es.length : Nat) : Int) A Cs Is Hs Es 0 0 A Cs Is Hs Es (fun y z => k y z) n i a.1 a.2) (fun n pre x rest a h h1 h2 => ?_) (fun n a => ?_) Es []
 have l6 := od (fun pre x a => orF a (te Cs Is Hs x)) (fun f : Flt => kf k (orF f (gP (xm Cs Is Hs) [] Es))) hi (fun n i (a : Flt) => dZ N Is ((Is.length : Nat) : Int) A Cs Is Hs Es 0 0 A Cs Is Hs Es (fun (y95 : Int) (y96 : Int) =>
 de N Es ((Es.length : Nat) : Int) A Cs Is Hs Es 0 0 A Cs Is Hs Es (fun y z => k y z) N 0 y95 y96) n i a.1 a.2) (fun n pre x rest a h h1 h2 => ?_) (fun n a => ?_) Is []
 have l4 := od (fun pre x a => orF a (wG Cs Is pre x)) (fun f : Flt => kf k (orF (orF f (gP (fun _ x => te Cs Is Hs x) [] Is)) (gP (xm Cs Is Hs) [] Es))) hh (fun n i (a : Flt) => fh N Hs ((Hs.length : Nat) : Int) A Cs Is Hs Es 0 0 A Cs Is Hs Es (fun (y73 : Int) (y74 : Int) =>
 dZ N Is ((Is.length : Nat) : Int) A Cs Is Hs Es 0 0 A Cs Is Hs Es (fun (y95 : Int) (y96 : Int) =>
 de N Es ((Es.length : Nat) : Int) A Cs Is Hs Es 0 0 A Cs Is Hs Es (fun y z => k y z) N 0 y95 y96) N 0 y73 y74) n i a.1 a.2) (fun n pre x rest a h h1 h2 => ?_) (fun n a => ?_) Hs []
 have l2 := od (fun pre x a => orF a (wF Cs pre x)) (fun f : Flt => kf k (orF (orF (orF f (gP (wG Cs Is) [] Hs)) (gP (fun _ x => te Cs Is Hs x) [] Is)) (gP (xm Cs Is Hs) [] Es))) hi (fun n i (a : Flt) => gR N Is ((Is.length : Nat) : Int) A Cs Is Hs Es 0 0 A Cs Is Hs Es (fun (y51 : Int) (y52 : Int) =>
 fh N Hs ((Hs.length : Nat) : Int) A Cs Is Hs Es 0 0 A Cs Is Hs Es (fun (y73 : Int) (y74 : Int) =>
 dZ N Is ((Is.length : Nat) : Int) A Cs Is Hs Es 0 0 A Cs Is Hs Es (fun (y95 : Int) (y96 : Int) =>
 de N Es ((Es.length : Nat) : Int) A Cs Is Hs Es 0 0 A Cs Is Hs Es (fun y z => k y z) N 0 y95 y96) N 0 y73 y74) N 0 y51 y52) n i a.1 a.2) (fun n pre x rest a h h1 h2 => ?_) (fun n a => ?_) Is []
 have l0 := od (fun pre x a => orF a (tO pre x)) (fun f : Flt => kf k (orF (orF (orF (orF f (gP (wF Cs) [] Is)) (gP (wG Cs Is) [] Hs)) (gP (fun _ x => te Cs Is Hs x) [] Is)) (gP (xm Cs Is Hs) [] Es))) hc (fun n i (a : Flt) => jj N Cs ((Cs.length : Nat) : Int) A Cs Is Hs Es 0 0 A Cs Is Hs Es (fun (y29 : Int) (y30 : Int) =>
 gR N Is ((Is.length : Nat) : Int) A Cs Is Hs Es 0 0 A Cs Is Hs Es (fun (y51 : Int) (y52 : Int) =>
 fh N Hs ((Hs.length : Nat) : Int) A Cs Is Hs Es 0 0 A Cs Is Hs Es (fun (y73 : Int) (y74 : Int) =>
 dZ N Is ((Is.length : Nat) : Int) A Cs Is Hs Es 0 0 A Cs Is Hs Es (fun (y95 : Int) (y96 : Int) =>
 de N Es ((Es.length : Nat) : Int) A Cs Is Hs Es 0 0 A Cs Is Hs Es (fun y z => k y z) N 0 y95 y96) N 0 y73 y74) N 0 y51 y52) N 0 y29 y30) n i a.1 a.2) (fun n pre x rest a h h1 h2 => ?_) (fun n a => ?_) Cs []
 ·have := l0 (orF (orF (0, 0) (chk (decide (A ≥ 1) && decide (A ≤ 65536)) 16 0)) (chk (decide (((Is.length : Nat) : Int) > 0)) 7 0)) N rfl (by omega)
  rw [km] at this
  refine Eq.trans this ?_
  unfold RB
  simp only [aO]
  rw [aG]
  exact ao (aK _ _ (by decide)) (ao (aK _ _ (by decide)) (ao (fv Ca _ _) (ao (fv (Ax _) _ _) (ao (fv (Ay _ _) _ _) (ao (fv (fun _ x => xn _ _ _ x) _ _) (fv (Az _ _ _) _ _))))))
 ·have hp : pre.length ≤ Cs.length := by rw [h]; simp
  have hm : x ∈ Cs := by rw [h]; simp
  simp only [jj, lN, h1, h2, if_true, Option.bind_some]
  rw [if_pos (g01 hp), jZ h, Kj _ _ _ hN (by omega), bo _ _ _ _ _ _ _ _ _ _ (by decide), bc, OR x A Cs Is Hs Es hN (hcs x hm), bc]
  unfold tO
  simp only [Prod.eta, aO]
 ·simp only [jj, lN]
  simp only [Int.lt_irrefl, decide_false, Bool.false_eq_true, if_false]
  have := l2 a N rfl (by omega)
  rw [km] at this
  exact this
 ·simp only [gR, lO, h1, h2, if_true, Option.bind_some]
  rw [Rx pre x rest A Cs Is Hs Es _ _ _ hN hc hi h, bc]
 ·simp only [gR, lO]
  simp only [Int.lt_irrefl, decide_false, Bool.false_eq_true, if_false]
  have := l4 a N rfl (by omega)
  rw [km] at this
  exact this
 ·simp only [fh, lP, h1, h2, if_true, Option.bind_some]
  rw [Kn pre x rest A Cs Is Hs Es _ _ _ hN hc hi hh (fun c hc => (hcs c hc).1) h, bc]
 ·simp only [fh, lP]
  simp only [Int.lt_irrefl, decide_false, Bool.false_eq_true, if_false]
  have := l6 a N rfl (by omega)
  rw [km (fun _ x => te Cs Is Hs x)] at this
  exact this
 ·simp only [dZ, lQ, h1, h2, if_true, Option.bind_some]
  rw [MW x A Cs Is Hs Es _ _ _ hN hc hi hh (fun c hc => (hcs c hc).1), bc]
 ·simp only [dZ, lQ]
  simp only [Int.lt_irrefl, decide_false, Bool.false_eq_true, if_false]
  have := l8 a N rfl (by omega)
  rw [km] at this
  exact this
 ·have hp : pre.length ≤ Es.length := by rw [h]; simp
  have hm : x ∈ Es := by rw [h]; simp
  simp only [de, lR, h1, h2, if_true, Option.bind_some]
  rw [if_pos (g01 hp), jZ h, MT _ _ _ hN (by omega), bo _ _ _ _ _ _ _ _ _ _ (by decide), bc, RA x A Cs Is Hs Es _ _ _ hN hc hi hh hcs (b6 x hm), bc]
  unfold xm
  simp only [Prod.eta, aO]
 ·simp only [de, lR]
  simp [kf]
end
end So
