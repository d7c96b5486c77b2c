/- Loops in plain words: searches, folds. -/
import Derived.Test.YtcllbmdpckfnhaaGreatPL
import Derived.Test.YtcllbmdpckfnhaaGreatT38
set_option maxRecDepth 1000000
set_option linter.unusedVariables false
set_option linter.unusedSimpArgs false
namespace So
open Go TE Go.Proofs
def idx {E : Type} (p : E → Bool) : List E → Int
 | [] => -1
 | e :: r => if p e = true then 0 else if idx p r < 0 then -1 else idx p r + 1
theorem idx_ge {E : Type} (p : E → Bool) (l : List E) : -1 ≤ idx p l := by
 induction l with
 | nil => simp [idx]
 | cons e r ih => unfold idx; split <;> (try split) <;> omega
theorem idx_lt {E : Type} (p : E → Bool) (l : List E) : idx p l < l.length := by
 induction l with
 | nil => simp [idx]
 | cons e r ih => unfold idx; simp only [List.length_cons]; split <;> (try split) <;> omega
theorem idx_any {E : Type} (p : E → Bool) (l : List E) : decide (idx p l ≥ 0) = l.any p := by
 induction l with
 | nil => simp [idx]
 | cons e r ih =>
  unfold idx
  have := idx_ge p r
  cases hp : p e with
  | true => simp [hp]
  | false =>
   simp only [hp, Bool.false_eq_true, if_false, List.any_cons, Bool.false_or, ← ih]
   split <;> simp <;> omega
theorem idx_any' {E : Type} (p : E → Bool) (l : List E) : decide (idx p l < 0) = !l.any p := by
 rw [← idx_any]
 by_cases h : idx p l < 0
 ·have : ¬ idx p l ≥ 0 := by omega
  simp [h, this]
 ·have : idx p l ≥ 0 := by omega
  simp [h, this]
theorem idx_some {E : Type} {p : E → Bool} {l : List E} (h : l.any p = true) : ∃ e, at? l (idx p l) = some e ∧ p e = true ∧ l.find? p = some e := by
 induction l with
 | nil => simp at h
 | cons x r ih =>
  unfold idx
  cases hp : p x with
  | true => exact ⟨x, by simp [at?, hp], hp, by simp [hp]⟩
  | false =>
   have h' : r.any p = true := by simpa [hp] using h
   obtain ⟨e, h1, h2, h3⟩ := ih h'
   have hge : ¬ idx p r < 0 := by
    have := idx_any p r
    rw [h'] at this
    have := of_decide_eq_true this
    omega
   refine ⟨e, ?_, h2, by simp [hp, h3]⟩
   simp only [hp, Bool.false_eq_true, if_false, hge]
   unfold at? at h1 ⊢
   rw [if_neg hge] at h1
   rw [if_neg (by omega), show (idx p r + 1).toNat = (idx p r).toNat + 1 by omega]
   simpa using h1
def big : Nat := 1000000000
section
variable {E R : Type} {l : List E}
theorem at_lt {i : Int} (h0 : 0 ≤ i) (h1 : i < l.length) : ∃ e, at? l i = some e ∧ l[i.toNat]? = some e :=
 have h : i.toNat < l.length := by omega
 ⟨_, at_some h0 (List.getElem?_eq_getElem h), List.getElem?_eq_getElem h⟩
theorem search (p : E → Bool) (K : Int → Option R) (hl : l.length < big) (G : Nat → Int → Option R)
  (hG : ∀ (n : Nat) (i : Int) e, 0 ≤ i → i < l.length → decide (i < ((l.length : Nat) : Int)) = true → at? l i = some e → l[i.toNat]? = some e → G (n + 1) i = if p e = true then K i else G n (IntKind.wrap .i64 (i + 1)))
  (h0 : ∀ (n : Nat) (i : Int), decide (i < ((l.length : Nat) : Int)) = false → G (n + 1) i = K (-1)) (N : Nat) (hN : l.length < N) : G N 0 = K (idx p l) := by
 have hb : big = 1000000000 := rfl
 have key : ∀ (r : List E) (i : Nat) (n : Nat), l.drop i = r → i ≤ l.length → l.length - i < n → G n i = K (if idx p r < 0 then -1 else idx p r + i) := by
  intro r
  induction r with
  | nil =>
   intro i n hr hi hn
   obtain ⟨n, rfl⟩ : ∃ m, n = m + 1 := ⟨n - 1, by omega⟩
   have : l.length ≤ i := List.drop_eq_nil_iff.1 hr
   rw [h0 n i (by simp; omega)]
   simp [idx]
  | cons e r ih =>
   intro i n hr hi hn
   obtain ⟨n, rfl⟩ : ∃ m, n = m + 1 := ⟨n - 1, by omega⟩
   have hlt : i < l.length := by
    refine Classical.byContradiction fun hc => ?_
    rw [List.drop_eq_nil_of_le (by omega)] at hr; cases hr
   have he : l[i]? = some e := by
    have := congrArg List.head? hr
    simpa [List.head?_drop] using this
   have hr' : l.drop (i + 1) = r := by
    have := congrArg List.tail hr
    simpa [List.tail_drop] using this
   rw [hG n i e (by omega) (by omega) (by simp; omega) (at_some (by omega) (by simpa using he)) (by simpa using he)]
   unfold idx
   have hge := idx_ge p r
   split
   ·simp
   ·rw [wr _ (by omega) (by omega), show ((i : Int) + 1) = ((i + 1 : Nat) : Int) by omega, ih (i + 1) n hr' (by omega) (by omega)]
    congr 1
    split <;> simp <;> omega
 have := key l 0 N (by simp) (by omega) (by omega)
 rw [show ((0 : Nat) : Int) = 0 from rfl] at this
 rw [this]
 have hge := idx_ge p l
 congr 1
 split
 ·omega
 ·simp
def foldP {A : Type} (f : List E → E → A → A) : List E → List E → A → A
 | _, [], a => a
 | pre, e :: r, a => foldP f (pre ++ [e]) r (f pre e a)
theorem folds {A : Type} (f : List E → E → A → A) (K : A → Option R) (hl : l.length < big) (G : Nat → Int → A → Option R)
  (hG : ∀ n (pre : List E) e rest a, l = pre ++ e :: rest → decide (((pre.length : Nat) : Int) < ((l.length : Nat) : Int)) = true → at? l pre.length = some e → G (n + 1) pre.length a = G n (IntKind.wrap .i64 (((pre.length : Nat) : Int) + 1)) (f pre e a))
  (h0 : ∀ n a, G (n + 1) l.length a = K a) : ∀ (rest pre : List E) (a : A) (n : Nat), l = pre ++ rest → rest.length < n → G n pre.length a = K (foldP f pre rest a) := by
 have hb : big = 1000000000 := rfl
 intro rest
 induction rest with
 | nil =>
  intro pre a n h hn
  obtain ⟨n, rfl⟩ : ∃ m, n = m + 1 := ⟨n - 1, by omega⟩
  have : l = pre := by simpa using h
  subst this
  rw [h0]; rfl
 | cons e r ih =>
  intro pre a n h hn
  obtain ⟨n, rfl⟩ : ∃ m, n = m + 1 := ⟨n - 1, by omega⟩
  have hlen : l.length = pre.length + (r.length + 1) := by rw [h]; simp
  rw [hG n pre e r a h (by simp; omega) (at_some (by omega) (by rw [h]; simp))]
  rw [wr _ (by omega) (by omega), show ((pre.length : Int) + 1) = ((pre ++ [e]).length : Int) by simp, ih (pre ++ [e]) _ n (by rw [h]; simp) (by simp at hn; omega)]
  rfl
abbrev Flt := Int × Int
def exitP {A : Type} (f : List E → E → A → Flt × A) : List E → List E → A → Flt × A
 | _, [], a => ((0, 0), a)
 | pre, e :: r, a => if (f pre e a).1.1 = 0 then exitP f (pre ++ [e]) r (f pre e a).2 else f pre e a
theorem exits {A : Type} (f : List E → E → A → Flt × A) (Inv : List E → A → Prop) (K0 : A → Option R) (K1 : Flt → A → Option R) (hl : l.length < big) (G : Nat → Int → A → Option R)
  (hG : ∀ n (pre : List E) e rest a, l = pre ++ e :: rest → Inv pre a → decide (((pre.length : Nat) : Int) < ((l.length : Nat) : Int)) = true → at? l pre.length = some e →
   G (n + 1) pre.length a = (if (f pre e a).1.1 = 0 then G n (IntKind.wrap .i64 (((pre.length : Nat) : Int) + 1)) (f pre e a).2 else K1 (f pre e a).1 (f pre e a).2) ∧ ((f pre e a).1.1 = 0 → Inv (pre ++ [e]) (f pre e a).2))
  (h0 : ∀ n a, decide (((l.length : Nat) : Int) < ((l.length : Nat) : Int)) = false → Inv l a → G (n + 1) l.length a = K0 a) : ∀ (rest pre : List E) (a : A) (n : Nat), l = pre ++ rest → Inv pre a → rest.length < n → G n pre.length a = (if (exitP f pre rest a).1.1 = 0 then K0 (exitP f pre rest a).2 else K1 (exitP f pre rest a).1 (exitP f pre rest a).2) ∧ ((exitP f pre rest a).1.1 = 0 → Inv l (exitP f pre rest a).2) := by
 have hb : big = 1000000000 := rfl
 intro rest
 induction rest with
 | nil =>
  intro pre a n h hi hn
  obtain ⟨n, rfl⟩ : ∃ m, n = m + 1 := ⟨n - 1, by omega⟩
  have : l = pre := by simpa using h
  subst this
  rw [h0 _ _ (by simp) hi]
  exact ⟨rfl, fun _ => hi⟩
 | cons e r ih =>
  intro pre a n h hi hn
  obtain ⟨n, rfl⟩ : ∃ m, n = m + 1 := ⟨n - 1, by omega⟩
  have hlen : l.length = pre.length + (r.length + 1) := by rw [h]; simp
  obtain ⟨h1, h2⟩ := hG n pre e r a h hi (by simp; omega) (at_some (by omega) (by rw [h]; simp))
  rw [h1]
  unfold exitP
  by_cases hc : (f pre e a).1.1 = 0
  ·rw [if_pos hc, if_pos hc]
   rw [wr _ (by omega) (by omega), show ((pre.length : Int) + 1) = ((pre ++ [e]).length : Int) by simp]
   exact ih (pre ++ [e]) _ n (by rw [h]; simp) (h2 hc) (by simp at hn; omega)
  ·rw [if_neg hc, if_neg hc, if_neg hc]
   exact ⟨rfl, fun h => absurd h hc⟩
end
def orF (a b : Flt) : Flt := if a.1 = 0 ∧ b.1 ≠ 0 then b else a
def thenF (a b : Flt) : Flt := if a.1 = 0 then b else a
def chk (b : Bool) (c a : Int) : Flt := if b = true then (0, 0) else (c, a)
def Nf (a : Flt) : Prop := a.1 = 0 → a = (0, 0)
theorem orF_assoc (a b c : Flt) : orF (orF a b) c = orF a (orF b c) := by
 unfold orF
 by_cases ha : a.1 = 0 <;> by_cases hb : b.1 = 0 <;> by_cases hc : c.1 = 0 <;> simp [ha, hb, hc]
theorem orF_zero (a : Flt) : orF a (0, 0) = a := by simp [orF]
theorem zero_orF {a : Flt} (h : Nf a) : orF (0, 0) a = a := by
 unfold orF
 by_cases ha : a.1 = 0
 ·simp [ha, h ha]
 ·simp [ha]
theorem orF_ne {a : Flt} (b : Flt) (h : a.1 ≠ 0) : orF a b = a := by simp [orF, h]
theorem orF_then {a b : Flt} (ha : Nf a) (hb : Nf b) : orF a b = thenF a b := by
 unfold orF thenF
 by_cases h : a.1 = 0
 ·by_cases h' : b.1 = 0
  ·simp [h, h', ha h, hb h']
  ·simp [h, h']
 ·simp [h]
theorem Nf_chk (b : Bool) {c : Int} (a : Int) (hc : c ≠ 0) : Nf (chk b c a) := by
 unfold Nf chk
 split <;> simp [hc]
theorem Nf_zero : Nf (0, 0) := fun _ => rfl
theorem Nf_orF {a b : Flt} (ha : Nf a) (hb : Nf b) : Nf (orF a b) := by
 unfold orF
 split
 ·exact hb
 ·exact ha
theorem orF_fst {a b : Flt} : (orF a b).1 = 0 ↔ a.1 = 0 ∧ b.1 = 0 := by
 unfold orF
 split
 ·rename_i h; simp [h.1, h.2]
 ·rename_i h
  constructor
  ·intro h'; exact ⟨h', by simpa [h'] using h⟩
  ·exact fun h => h.1
theorem chk_fst {b : Bool} {c a : Int} (hc : c ≠ 0) : (chk b c a).1 = 0 ↔ b = true := by
 unfold chk
 split <;> simp_all
def kf {R : Type} (k : Int → Int → Option R) (f : Flt) : Option R := k f.1 f.2
section
variable {R : Type} {N : Nat}
theorem want_eq (b : Bool) {c : Int} (a A : Int) (Cs : List Chart) (Is : List Inst) (Hs : List Chan) (Es : List Cert) (C At : Int) (k : Int → Int → Option R) (hc : c ≠ 0) : sound_checker_want N b c a A Cs Is Hs Es C At k = kf k (orF (C, At) (chk b c a)) := by
 unfold sound_checker_want kf orF chk
 simp only [ifB_and, Option.bind_some]
 by_cases h : C = 0 <;> cases b <;> simp [h, hc]
theorem within_eq (n l m : Int) (k : Bool → Option R) : sound_within N n l m k = k (decide (n ≥ l) && decide (n ≤ m)) := by
 unfold sound_within
 simp only [ifB_and, Option.bind_some]
def isH (s : State) : Bool := s.Kind == 3 || s.Kind == 4
theorem hist_eq (s : State) (k : Bool → Option R) : sound_history N s.Kind s.Name s.Entry s.Exit s.Trans s.Kids s.At k = k (isH s) := by
 unfold sound_history isH
 simp only [ifB_or, Option.bind_some]
theorem states1_eq (s : State) (k : Bool → Option R) : sound_states_1 N s.Kind s.Name s.Entry s.Exit s.Trans s.Kids s.At k = k (!isH s) := by
 unfold sound_states_1
 rw [hist_eq]
def isS (s : State) : Bool := s.Kind == 1 || s.Kind == 2
theorem isState_eq (s : State) (k : Bool → Option R) : r12_isState N s.Kind s.Name s.Entry s.Exit s.Trans s.Kids s.At k = k (isS s) := by
 unfold r12_isState isS
 simp only [ifB_or, Option.bind_some]
theorem samech_eq (x y : Chan) (k : Bool → Option R) : sound_checker_channel_1 N x.Name x.From x.Port x.To x.Cap x.Prio x.At y.Name y.From y.Port y.To y.Cap y.Prio y.At k = k (x.From == y.From && x.Port == y.Port) := by
 unfold sound_checker_channel_1
 simp only [ifB_and, Option.bind_some]
theorem joinch_eq (x : Chan) (y : Inst) (p : Named) (k : Bool → Option R) : sound_checker_joined_1 N x.Name x.From x.Port x.To x.Cap x.Prio x.At y.Name y.Chart y.Quantum y.Ext y.Prio y.At p.Name p.N p.At k = k (x.From == y.Name && x.Port == p.Name) := by
 unfold sound_checker_joined_1
 simp only [ifB_and, Option.bind_some]
theorem ifChart_eq (s : List Chart) (f : List UInt8) (k : Int → Option R) (hN : big ≤ N) (hl : s.length < big) : slices_IndexFunc_Chart N s f k = k (idx (fun e => e.Name == f) s) := by
 unfold slices_IndexFunc_Chart
 refine search (fun e => e.Name == f) k hl (fun n i => slices_IndexFunc_Chart_l0 N s ((s.length : Nat) : Int) f (k (-1)) (fun y => k y) n i) (fun n i e h0 h1 h2 h3 h4 => ?_) (fun n i h => ?_) N (by omega)
 ·simp only [slices_IndexFunc_Chart_l0, slices_IndexFunc_Chart_l0_b, h2, h3, h4, h0, h1, if_true, Option.bind_some, ifB_and, ifB_or, ge_iff_le, decide_true, and_self]
 ·simp only [slices_IndexFunc_Chart_l0, slices_IndexFunc_Chart_l0_b, h]
  rfl
theorem ifNamed_eq (s : List Named) (f : List UInt8) (k : Int → Option R) (hN : big ≤ N) (hl : s.length < big) : slices_IndexFunc_Named N s f k = k (idx (fun e => e.Name == f) s) := by
 unfold slices_IndexFunc_Named
 refine search (fun e => e.Name == f) k hl (fun n i => slices_IndexFunc_Named_l0 N s ((s.length : Nat) : Int) f (k (-1)) (fun y => k y) n i) (fun n i e h0 h1 h2 h3 h4 => ?_) (fun n i h => ?_) N (by omega)
 ·simp only [slices_IndexFunc_Named_l0, slices_IndexFunc_Named_l0_b, h2, h3, h4, h0, h1, if_true, Option.bind_some, ifB_and, ifB_or, ge_iff_le, decide_true, and_self]
 ·simp only [slices_IndexFunc_Named_l0, slices_IndexFunc_Named_l0_b, h]
  rfl
theorem ifInst_eq (s : List Inst) (f : List UInt8) (k : Int → Option R) (hN : big ≤ N) (hl : s.length < big) : slices_IndexFunc_Inst N s f k = k (idx (fun e => e.Name == f) s) := by
 unfold slices_IndexFunc_Inst
 refine search (fun e => e.Name == f) k hl (fun n i => slices_IndexFunc_Inst_l0 N s ((s.length : Nat) : Int) f (k (-1)) (fun y => k y) n i) (fun n i e h0 h1 h2 h3 h4 => ?_) (fun n i h => ?_) N (by omega)
 ·simp only [slices_IndexFunc_Inst_l0, slices_IndexFunc_Inst_l0_b, h2, h3, h4, h0, h1, if_true, Option.bind_some, ifB_and, ifB_or, ge_iff_le, decide_true, and_self]
 ·simp only [slices_IndexFunc_Inst_l0, slices_IndexFunc_Inst_l0_b, h]
  rfl
theorem ifChan_eq (s : List Chan) (f : List UInt8) (k : Int → Option R) (hN : big ≤ N) (hl : s.length < big) : slices_IndexFunc_Chan N s f k = k (idx (fun e => e.Name == f) s) := by
 unfold slices_IndexFunc_Chan
 refine search (fun e => e.Name == f) k hl (fun n i => slices_IndexFunc_Chan_l0 N s ((s.length : Nat) : Int) f (k (-1)) (fun y => k y) n i) (fun n i e h0 h1 h2 h3 h4 => ?_) (fun n i h => ?_) N (by omega)
 ·simp only [slices_IndexFunc_Chan_l0, slices_IndexFunc_Chan_l0_b, h2, h3, h4, h0, h1, if_true, Option.bind_some, ifB_and, ifB_or, ge_iff_le, decide_true, and_self]
 ·simp only [slices_IndexFunc_Chan_l0, slices_IndexFunc_Chan_l0_b, h]
  rfl
theorem ifCert_eq (s : List Cert) (f : List UInt8) (k : Int → Option R) (hN : big ≤ N) (hl : s.length < big) : slices_IndexFunc_Cert N s f k = k (idx (fun e => e.Name == f) s) := by
 unfold slices_IndexFunc_Cert
 refine search (fun e => e.Name == f) k hl (fun n i => slices_IndexFunc_Cert_l0 N s ((s.length : Nat) : Int) f (k (-1)) (fun y => k y) n i) (fun n i e h0 h1 h2 h3 h4 => ?_) (fun n i h => ?_) N (by omega)
 ·simp only [slices_IndexFunc_Cert_l0, slices_IndexFunc_Cert_l0_b, h2, h3, h4, h0, h1, if_true, Option.bind_some, ifB_and, ifB_or, ge_iff_le, decide_true, and_self]
 ·simp only [slices_IndexFunc_Cert_l0, slices_IndexFunc_Cert_l0_b, h]
  rfl
theorem ifState_eq (s : List State) (k : Int → Option R) (hN : big ≤ N) (hl : s.length < big) : slices_IndexFunc_State N s k = k (idx (fun e => !isH e) s) := by
 unfold slices_IndexFunc_State
 refine search (fun e => !isH e) k hl (fun n i => slices_IndexFunc_State_l0 N s ((s.length : Nat) : Int) (k (-1)) (fun y => k y) n i) (fun n i e h0 h1 h2 h3 h4 => ?_) (fun n i h => ?_) N (by omega)
 ·simp only [slices_IndexFunc_State_l0, slices_IndexFunc_State_l0_b, h2, h3, h4, h0, h1, if_true, Option.bind_some, ifB_and, ifB_or, ge_iff_le, decide_true, and_self, states1_eq]
 ·simp only [slices_IndexFunc_State_l0, slices_IndexFunc_State_l0_b, h]
  rfl
theorem ifState3_eq (s : List State) (f : List UInt8) (k : Int → Option R) (hN : big ≤ N) (hl : s.length < big) : slices_IndexFunc_State_3 N s f k = k (idx (fun e => e.Name == f) s) := by
 unfold slices_IndexFunc_State_3
 refine search (fun e => e.Name == f) k hl (fun n i => slices_IndexFunc_State_3_l0 N ((s.length : Nat) : Int) s f (k (-1)) (fun y => k y) n i) (fun n i e h0 h1 h2 h3 h4 => ?_) (fun n i h => ?_) N (by omega)
 ·simp only [slices_IndexFunc_State_3_l0, slices_IndexFunc_State_3_l0_b, h2, h3, h4, h0, h1, if_true, Option.bind_some, ifB_and, ifB_or, ge_iff_le, decide_true, and_self]
 ·simp only [slices_IndexFunc_State_3_l0, slices_IndexFunc_State_3_l0_b, h]
  rfl
theorem ifState4_eq (s : List State) (k : Int → Option R) (hN : big ≤ N) (hl : s.length < big) : slices_IndexFunc_State_4 N s k = k (idx isH s) := by
 unfold slices_IndexFunc_State_4
 refine search isH k hl (fun n i => slices_IndexFunc_State_4_l0 N s ((s.length : Nat) : Int) (k (-1)) (fun y => k y) n i) (fun n i e h0 h1 h2 h3 h4 => ?_) (fun n i h => ?_) N (by omega)
 ·simp only [slices_IndexFunc_State_4_l0, slices_IndexFunc_State_4_l0_b, h2, h3, h4, h0, h1, if_true, Option.bind_some, ifB_and, ifB_or, ge_iff_le, decide_true, and_self, hist_eq]
 ·simp only [slices_IndexFunc_State_4_l0, slices_IndexFunc_State_4_l0_b, h]
  rfl
theorem ifState5_eq (s : List State) (f : List UInt8) (k : Int → Option R) (hN : big ≤ N) (hl : s.length < big) : slices_IndexFunc_State_5 N s f k = k (idx (fun e => e.Name == f) s) := by
 unfold slices_IndexFunc_State_5
 refine search (fun e => e.Name == f) k hl (fun n i => slices_IndexFunc_State_5_l0 N s ((s.length : Nat) : Int) f (k (-1)) (fun y => k y) n i) (fun n i e h0 h1 h2 h3 h4 => ?_) (fun n i h => ?_) N (by omega)
 ·simp only [slices_IndexFunc_State_5_l0, slices_IndexFunc_State_5_l0_b, h2, h3, h4, h0, h1, if_true, Option.bind_some, ifB_and, ifB_or, ge_iff_le, decide_true, and_self]
 ·simp only [slices_IndexFunc_State_5_l0, slices_IndexFunc_State_5_l0_b, h]
  rfl
theorem ifChan2_eq (s : List Chan) (y : Chan) (k : Int → Option R) (hN : big ≤ N) (hl : s.length < big) : slices_IndexFunc_Chan_2 N s y.Name y.From y.Port y.To y.Cap y.Prio y.At k = k (idx (fun x => x.From == y.From && x.Port == y.Port) s) := by
 unfold slices_IndexFunc_Chan_2
 refine search (fun x => x.From == y.From && x.Port == y.Port) k hl (fun n i => slices_IndexFunc_Chan_2_l0 N s ((s.length : Nat) : Int) y.Name y.From y.Port y.To y.Cap y.Prio y.At (k (-1)) (fun y => k y) n i) (fun n i e h0 h1 h2 h3 h4 => ?_) (fun n i h => ?_) N (by omega)
 ·simp only [slices_IndexFunc_Chan_2_l0, slices_IndexFunc_Chan_2_l0_b, h2, h3, h4, h0, h1, if_true, Option.bind_some, ifB_and, ifB_or, ge_iff_le, decide_true, and_self, samech_eq]
 ·simp only [slices_IndexFunc_Chan_2_l0, slices_IndexFunc_Chan_2_l0_b, h]
  rfl
theorem ifChan3_eq (s : List Chan) (y : Inst) (p : Named) (k : Int → Option R) (hN : big ≤ N) (hl : s.length < big) : slices_IndexFunc_Chan_3 N s y.Name y.Chart y.Quantum y.Ext y.Prio y.At p.Name p.N p.At k = k (idx (fun x => x.From == y.Name && x.Port == p.Name) s) := by
 unfold slices_IndexFunc_Chan_3
 refine search (fun x => x.From == y.Name && x.Port == p.Name) k hl (fun n i => slices_IndexFunc_Chan_3_l0 N s ((s.length : Nat) : Int) y.Name y.Chart y.Quantum y.Ext y.Prio y.At p.Name p.N p.At (k (-1)) (fun y => k y) n i) (fun n i e h0 h1 h2 h3 h4 => ?_) (fun n i h => ?_) N (by omega)
 ·simp only [slices_IndexFunc_Chan_3_l0, slices_IndexFunc_Chan_3_l0_b, h2, h3, h4, h0, h1, if_true, Option.bind_some, ifB_and, ifB_or, ge_iff_le, decide_true, and_self, joinch_eq]
 ·simp only [slices_IndexFunc_Chan_3_l0, slices_IndexFunc_Chan_3_l0_b, h]
  rfl
theorem ixstr_eq (s : List (List UInt8)) (v : List UInt8) (k : Int → Option R) (hN : big ≤ N) (hl : s.length < big) : slices_Index_string N s v k = k (idx (fun e => v == e) s) := by
 unfold slices_Index_string
 refine search (fun e => v == e) k hl (fun n i => slices_Index_string_l0 N s v ((s.length : Nat) : Int) (k (-1)) (fun y => k y) n i) (fun n i e h0 h1 h2 h3 h4 => ?_) (fun n i h => ?_) N (by omega)
 ·simp only [slices_Index_string_l0, slices_Index_string_l0_b, h2, h3, h4, h0, h1, if_true, Option.bind_some, ifB_and, ifB_or, ge_iff_le, decide_true, and_self]
 ·simp only [slices_Index_string_l0, slices_Index_string_l0_b, h]
  rfl
theorem r12some_eq (l : List State) (k : Bool → Option R) (hN : big ≤ N) (hl : l.length < big) : r12_some N l k = k (l.any isS) := by
 unfold r12_some
 rw [← idx_any]
 refine search isS (fun j => k (decide (j ≥ 0))) hl (fun n i => r12_some_l0 N l (k false) (fun y => k y) n i) (fun n i e h0 h1 h2 h3 h4 => ?_) (fun n i h => ?_) N (by omega)
 ·simp only [r12_some_l0, r12_some_l0_b, h2, h3, h4, h0, h1, if_true, Option.bind_some, ifB_and, ifB_or, ge_iff_le, decide_true, and_self, isState_eq]
 ·simp only [r12_some_l0, r12_some_l0_b, h]
  simp
theorem r12has_eq (l : List (List UInt8)) (s : List UInt8) (k : Bool → Option R) (hN : big ≤ N) (hl : l.length < big) : r12_has N l s k = k (l.any (fun e => e == s)) := by
 unfold r12_has
 rw [← idx_any]
 refine search (fun e => e == s) (fun j => k (decide (j ≥ 0))) hl (fun n i => r12_has_l0 N l s (k false) (fun y => k y) n i) (fun n i e h0 h1 h2 h3 h4 => ?_) (fun n i h => ?_) N (by omega)
 ·simp only [r12_has_l0, r12_has_l0_b, h2, h3, h4, h0, h1, if_true, Option.bind_some, ifB_and, ifB_or, ge_iff_le, decide_true, and_self]
 ·simp only [r12_has_l0, r12_has_l0_b, h]
  simp
theorem r12Inst_eq (A : Int) (Cs : List Chart) (Is : List Inst) (Hs : List Chan) (Es : List Cert) (s : List UInt8) (k : Int → Option R) (hN : big ≤ N) (hl : Is.length < big) : r12_Inst N A Cs Is Hs Es s k = k (idx (fun e => e.Name == s) Is) := by
 unfold r12_Inst
 refine search (fun e => e.Name == s) k hl (fun n i => r12_Inst_l0 N s A Cs Is Hs Es (k (-1)) (fun y => k y) n i) (fun n i e h0 h1 h2 h3 h4 => ?_) (fun n i h => ?_) N (by omega)
 ·simp only [r12_Inst_l0, r12_Inst_l0_b, h2, h3, h4, h0, h1, if_true, Option.bind_some, ifB_and, ifB_or, ge_iff_le, decide_true, and_self]
 ·simp only [r12_Inst_l0, r12_Inst_l0_b, h]
  rfl
theorem r12Chart_eq (A : Int) (Cs : List Chart) (Is : List Inst) (Hs : List Chan) (Es : List Cert) (s : List UInt8) (k : Int → Option R) (hN : big ≤ N) (hl : Cs.length < big) : r12_Chart N A Cs Is Hs Es s k = k (idx (fun e => e.Name == s) Cs) := by
 unfold r12_Chart
 refine search (fun e => e.Name == s) k hl (fun n i => r12_Chart_l0 N s A Cs Is Hs Es (k (-1)) (fun y => k y) n i) (fun n i e h0 h1 h2 h3 h4 => ?_) (fun n i h => ?_) N (by omega)
 ·simp only [r12_Chart_l0, r12_Chart_l0_b, h2, h3, h4, h0, h1, if_true, Option.bind_some, ifB_and, ifB_or, ge_iff_le, decide_true, and_self]
 ·simp only [r12_Chart_l0, r12_Chart_l0_b, h]
  rfl
theorem r12Chan_eq (A : Int) (Cs : List Chart) (Is : List Inst) (Hs : List Chan) (Es : List Cert) (s : List UInt8) (k : Int → Option R) (hN : big ≤ N) (hl : Hs.length < big) : r12_Chan N A Cs Is Hs Es s k = k (idx (fun e => e.Name == s) Hs) := by
 unfold r12_Chan
 refine search (fun e => e.Name == s) k hl (fun n i => r12_Chan_l0 N s A Cs Is Hs Es (k (-1)) (fun y => k y) n i) (fun n i e h0 h1 h2 h3 h4 => ?_) (fun n i h => ?_) N (by omega)
 ·simp only [r12_Chan_l0, r12_Chan_l0_b, h2, h3, h4, h0, h1, if_true, Option.bind_some, ifB_and, ifB_or, ge_iff_le, decide_true, and_self]
 ·simp only [r12_Chan_l0, r12_Chan_l0_b, h]
  rfl
theorem r3has_eq (l : List Int) (q : Int) (k : Bool → Option R) (hN : big ≤ N) (hl : l.length < big) : r3_Has N l q k = k (l.any (fun e => e == q)) := by
 unfold r3_Has
 rw [← idx_any]
 refine search (fun e => e == q) (fun j => k (decide (j ≥ 0))) hl (fun n i => r3_Has_l0 N l q (k false) (fun y => k y) n i) (fun n i e h0 h1 h2 h3 h4 => ?_) (fun n i h => ?_) N (by omega)
 ·simp only [r3_Has_l0, r3_Has_l0_b, h2, h3, h4, h0, h1, if_true, Option.bind_some, ifB_and, ifB_or, ge_iff_le, decide_true, and_self]
 ·simp only [r3_Has_l0, r3_Has_l0_b, h]
  simp
theorem contS_eq (s : List State) (k : Bool → Option R) (hN : big ≤ N) (hl : s.length < big) : sound_states N s k = k (s.any fun e => !isH e) := by
 unfold sound_states slices_ContainsFunc_State
 rw [ifState_eq _ _ hN hl, idx_any]
theorem contH_eq (s : List State) (k : Bool → Option R) (hN : big ≤ N) (hl : s.length < big) : slices_ContainsFunc_State_2 N s k = k (s.any isH) := by
 unfold slices_ContainsFunc_State_2
 rw [ifState4_eq _ _ hN hl, idx_any]
theorem contC_eq (s : List Chan) (y : Chan) (k : Bool → Option R) (hN : big ≤ N) (hl : s.length < big) : slices_ContainsFunc_Chan N s y.Name y.From y.Port y.To y.Cap y.Prio y.At k = k (s.any fun x => x.From == y.From && x.Port == y.Port) := by
 unfold slices_ContainsFunc_Chan
 rw [ifChan2_eq _ _ _ hN hl, idx_any]
theorem contJ_eq (s : List Chan) (y : Inst) (p : Named) (k : Bool → Option R) (hN : big ≤ N) (hl : s.length < big) : slices_ContainsFunc_Chan_2 N s y.Name y.Chart y.Quantum y.Ext y.Prio y.At p.Name p.N p.At k = k (s.any fun x => x.From == y.Name && x.Port == p.Name) := by
 unfold slices_ContainsFunc_Chan_2
 rw [ifChan3_eq _ _ _ _ hN hl, idx_any]
theorem conts_eq (s : List (List UInt8)) (v : List UInt8) (k : Bool → Option R) (hN : big ≤ N) (hl : s.length < big) : slices_Contains_string N s v k = k (s.any fun e => v == e) := by
 unfold slices_Contains_string
 rw [ixstr_eq _ _ _ hN hl]
 simp only [idx_any]
theorem twChart_eq (l : List Chart) (c : Chart) (k : Bool → Option R) (hN : big ≤ N) (hl : l.length < big) : sound_twice_Chart N l c.Name c.Steps c.Fuel c.Vars c.Ports c.Timers c.States c.At k = k (l.any fun e => e.Name == c.Name) := by
 unfold sound_twice_Chart sound_find_Chart
 rw [ifChart_eq _ _ _ hN hl]
 simp only [idx_any]
theorem twNamed_eq (l : List Named) (c : Named) (k : Bool → Option R) (hN : big ≤ N) (hl : l.length < big) : sound_twice_Named N l c.Name c.N c.At k = k (l.any fun e => e.Name == c.Name) := by
 unfold sound_twice_Named sound_find_Named
 rw [ifNamed_eq _ _ _ hN hl]
 simp only [idx_any]
theorem twInst_eq (l : List Inst) (c : Inst) (k : Bool → Option R) (hN : big ≤ N) (hl : l.length < big) : sound_twice_Inst N l c.Name c.Chart c.Quantum c.Ext c.Prio c.At k = k (l.any fun e => e.Name == c.Name) := by
 unfold sound_twice_Inst sound_find_Inst
 rw [ifInst_eq _ _ _ hN hl]
 simp only [idx_any]
theorem twChan_eq (l : List Chan) (c : Chan) (k : Bool → Option R) (hN : big ≤ N) (hl : l.length < big) : sound_twice_Chan N l c.Name c.From c.Port c.To c.Cap c.Prio c.At k = k (l.any fun e => e.Name == c.Name) := by
 unfold sound_twice_Chan sound_find_Chan
 rw [ifChan_eq _ _ _ hN hl]
 simp only [idx_any]
theorem twCert_eq (l : List Cert) (c : Cert) (k : Bool → Option R) (hN : big ≤ N) (hl : l.length < big) : sound_twice_Cert N l c.Name c.Inst c.Req c.Resp c.Insts c.Chans c.Cells c.At k = k (l.any fun e => e.Name == c.Name) := by
 unfold sound_twice_Cert sound_find_Cert
 rw [ifCert_eq _ _ _ hN hl]
 simp only [idx_any]
theorem twState_eq (l : List State) (c : State) (k : Bool → Option R) (hN : big ≤ N) (hl : l.length < big) : sound_twice_State_2 N c.Kind c.Name c.Entry c.Exit c.Trans c.Kids c.At l k = k (l.any fun e => e.Name == c.Name) := by
 unfold sound_twice_State_2 sound_find_State_2
 rw [ifState3_eq _ _ _ hN hl]
 simp only [idx_any]
end
def gP {E : Type} (g : List E → E → Flt) : List E → List E → Flt
 | _, [] => (0, 0)
 | pre, e :: r => orF (g pre e) (gP g (pre ++ [e]) r)
theorem foldP_orF {E : Type} (g : List E → E → Flt) : ∀ (r pre : List E) (a : Flt), foldP (fun pre e a => orF a (g pre e)) pre r a = orF a (gP g pre r) := by
 intro r
 induction r with
 | nil => intro pre a; simp only [foldP, gP]; rw [orF_zero]
 | cons e r ih => intro pre a; simp only [foldP, gP, ih]; rw [orF_assoc]
theorem Nf_gP {E : Type} {g : List E → E → Flt} (h : ∀ pre e, Nf (g pre e)) : ∀ (r pre : List E), Nf (gP g pre r) := by
 intro r
 induction r with
 | nil => intro pre; exact Nf_zero
 | cons e r ih => intro pre; exact Nf_orF (h pre e) (ih _)
theorem exitP_gP {E : Type} {g : List E → E → Flt} (h : ∀ pre e, Nf (g pre e)) : ∀ (r pre : List E), (exitP (fun pre e (_ : Unit) => (g pre e, ())) pre r ()).1 = gP g pre r := by
 intro r
 induction r with
 | nil => intro pre; rfl
 | cons e r ih =>
  intro pre
  simp only [exitP, gP]
  rw [orF_then (h pre e) (Nf_gP h _ _)]
  unfold thenF
  split
  ·exact ih _
  ·rfl
structure Pr where
 v : List UInt8 → Bool
 p : List UInt8 → Bool
 t : List UInt8 → Bool
 q : List UInt8 → Bool
 g : List UInt8 → Bool
mutual
def exF (P : Pr) : Expr → Flt
 | ⟨K, _, s, kids, a⟩ => orF (chk (if K = 2 then P.v s else if K = 4 then P.q s else true) 7 a) (exFs P kids)
def exFs (P : Pr) : List Expr → Flt
 | [] => (0, 0)
 | e :: r => orF (exF P e) (exFs P r)
end
def there (P : Pr) (K : Int) (s : List UInt8) : Bool := if K = 1 then P.v s else if K = 3 then P.p s else if K = 4 ∨ K = 5 then P.t s else true
mutual
def acF (P : Pr) : Act → Flt
 | ⟨K, s, _, x, n, t, e, a⟩ => orF (chk (there P K s) 7 a) (orF (chk (K != 7 || (decide (n ≥ 1) && decide (n ≤ 16))) 16 a) (orF (exFs P x) (orF (acFs P t) (acFs P e))))
def acFs (P : Pr) : List Act → Flt
 | [] => (0, 0)
 | e :: r => orF (acF P e) (acFs P r)
end
def trF (P : Pr) (n : Int) (t : Trans) : Flt := orF (chk (decide (n ≤ 96)) 15 t.At) (orF (chk (t.Target == [] || P.g t.Target) 7 t.At) (orF (exFs P t.Guard) (acFs P t.Acts)))
def trsF (P : Pr) : Int → List Trans → Flt
 | _, [] => (0, 0)
 | n, t :: r => orF (trF P (n + 1) t) (trsF P (n + 1) r)
def inF (P : Pr) : Int → List State → Flt
 | _, [] => (0, 0)
 | n, s :: r => if isH s = true then inF P n r else orF (acFs P s.Entry) (orF (acFs P s.Exit) (orF (trsF P n s.Trans) (inF P (n + s.Trans.length) r)))
mutual
def flS : State → List State
 | ⟨k, n, en, ex, tr, kids, a⟩ => ⟨k, n, en, ex, tr, kids, a⟩ :: flL kids
def flL : List State → List State
 | [] => []
 | s :: r => flS s ++ flL r
end
def badS (top : Bool) (s : State) : Bool := (top && isH s) || (s.Kind == 2 && !s.Kids.any fun e => !isH e) || (decide (((s.Kids.length : Nat) : Int) > 0) && !s.Kids.any fun e => !isH e)
def chkS (top : Bool) (out : List State) (s : State) : Flt := orF (chk (decide (((out.length : Nat) : Int) < 63)) 15 s.At) (orF (chk (!out.any fun e => e.Name == s.Name) 8 s.At) (chk (!badS top s) 17 s.At))
mutual
def tr1 (top : Bool) (out : List State) : State → Flt
 | ⟨k, n, en, ex, tr, kids, a⟩ => orF (chkS top out ⟨k, n, en, ex, tr, kids, a⟩) (trL false (out ++ [⟨k, n, en, ex, tr, kids, a⟩]) kids)
def trL (top : Bool) (out : List State) : List State → Flt
 | [] => (0, 0)
 | s :: r => orF (tr1 top out s) (trL top (out ++ flS s) r)
end
def nameG (most : Int) (pre : List Named) (e : Named) : Flt := orF (chk (decide (((pre.length : Nat) : Int) < most)) 15 e.At) (chk (!pre.any fun x => x.Name == e.Name) 8 e.At)
def findS (l : List State) (s : List UInt8) : Bool := match l.find? (fun e => e.Name == s) with
 | some e => !isH e
 | none => false
def prOf (c : Chart) (l : List State) : Pr := ⟨fun s => c.Vars.any fun e => e.Name == s, fun s => c.Ports.any fun e => e.Name == s, fun s => c.Timers.any fun e => e.Name == s, findS l, fun s => l.any fun e => e.Name == s⟩
def chHead (c : Chart) : Flt := orF (chk (decide (c.Steps ≥ 2) && decide (c.Steps ≤ 16) && (decide (c.Fuel ≥ 1) && decide (c.Fuel ≤ 4096))) 16 c.At) (orF (chk (c.States.any fun e => !isH e) 7 c.At) (orF (gP (nameG 8) [] c.Vars) (orF (gP (nameG 6) [] c.Ports) (gP (nameG 6) [] c.Timers))))
def chF (c : Chart) : Flt := orF (chHead c) (orF (trL true [] c.States) (inF (prOf c (flL c.States)) 0 (flL c.States)))
theorem kf_eq {R : Type} (k : Int → Int → Option R) (f : Flt) : kf k f = k f.1 f.2 := rfl
section
variable {R : Type} {N : Nat}
theorem take_pre {α : Type} {l pre r : List α} (h : l = pre ++ r) : (l.take ((pre.length : Nat) : Int).toNat).drop (Int.toNat 0) = pre := by
 subst h; simp
theorem g01 {l : Nat} {i : Nat} (h : i ≤ l) : (0 : Int) ≤ 0 ∧ 0 ≤ ((i : Nat) : Int) ∧ ((i : Nat) : Int) ≤ ((l : Nat) : Int) := ⟨by omega, by omega, by omega⟩
theorem names_eq (l : List Named) (most : Int) (A : Int) (Cs : List Chart) (Is : List Inst) (Hs : List Chan) (Es : List Cert) (C At : Int) (k : Int → Int → Option R) (hN : big ≤ N) (hl : l.length < big) :
  sound_checker_names N l most A Cs Is Hs Es C At k = kf k (orF (C, At) (gP (nameG most) [] l)) := by
 unfold sound_checker_names
 have := folds (fun pre e a => orF a (nameG most pre e)) (kf k) hl (fun n i (a : Flt) => sound_checker_names_l0 N l most l ((l.length : Nat) : Int) A Cs Is Hs Es (fun y z => k y z) n i a.1 a.2) (fun n pre e rest a h h1 h2 => ?_) (fun n a => ?_) l [] (C, At) N rfl (by omega)
 ·rw [foldP_orF] at this
  exact this
 ·have hp : pre.length ≤ l.length := by rw [h]; simp
  simp only [sound_checker_names_l0, sound_checker_names_l0_b, h1, h2, if_true, Option.bind_some]
  rw [want_eq _ _ _ _ _ _ _ _ _ _ (by decide), kf_eq, if_pos (g01 hp), take_pre h, twNamed_eq _ _ _ hN (by omega), want_eq _ _ _ _ _ _ _ _ _ _ (by decide), kf_eq]
  unfold nameG
  rw [← orF_assoc]
 ·simp only [sound_checker_names_l0, sound_checker_names_l0_b]
  simp [kf]
theorem szE_pos (e : Expr) : 1 ≤ szE e := by cases e; rw [szE_eq]; have := szEs_pos ‹List Expr›; omega
theorem szEs_len : ∀ l : List Expr, (l.length : Int) ≤ szEs l
 | [] => by simp [szEs]
 | e :: r => by have := szEs_len r; have := szE_pos e; simp only [List.length_cons, szEs]; omega
theorem szEs_mem : ∀ {l : List Expr} {e : Expr}, e ∈ l → szE e ≤ szEs l
 | x :: r, e, h => by
  simp only [szEs]
  rcases List.mem_cons.1 h with rfl | h
  ·have := szEs_pos r; omega
  ·have := szEs_mem h; have := szE_pos x; omega
theorem exFs_fold (P : Pr) : ∀ (l pre : List Expr) (a : Flt), foldP (fun _ e a => orF a (exF P e)) pre l a = orF a (exFs P l) := by
 intro l
 induction l with
 | nil => intro pre a; simp only [foldP, exFs]; rw [orF_zero]
 | cons e r ih => intro pre a; simp only [foldP, exFs, ih]; rw [orF_assoc]
theorem find_in (l : List State) (s : List UInt8) :
  (ifB (decide (idx (fun e => e.Name == s) l ≥ 0)) true (if (0 : Int) ≤ (if (0 > idx (fun e => e.Name == s) l) then 0 else idx (fun e => e.Name == s) l) ∧ (if (0 > idx (fun e => e.Name == s) l) then 0 else idx (fun e => e.Name == s) l) < (l.length : Int) then (match l[(if (0 > idx (fun e => e.Name == s) l) then 0 else idx (fun e => e.Name == s) l).toNat]? with
    | some e52 => (sound_history N e52.Kind e52.Name e52.Entry e52.Exit e52.Trans e52.Kids e52.At (fun (r53 : Bool) =>
     some (!r53)))
    | none => none) else none) (some false)) = some (findS l s) := by
 unfold findS
 cases h : l.any (fun e => e.Name == s) with
 | true =>
  obtain ⟨e, h1, h2, h3⟩ := idx_some h
  have hge : idx (fun e => e.Name == s) l ≥ 0 := by
   have := idx_any (fun e : State => e.Name == s) l
   rw [h] at this
   exact of_decide_eq_true this
  have hlt := idx_lt (fun e : State => e.Name == s) l
  have hn : ¬ (0 > idx (fun e => e.Name == s) l) := by omega
  have hg : l[(idx (fun e => e.Name == s) l).toNat]? = some e := by
   unfold at? at h1
   rwa [if_neg (by omega)] at h1
  simp only [hn, if_false]
  rw [if_pos ⟨by omega, hlt⟩, hg, h3]
  simp only [hist_eq]
  simp [hge, ifB]
 | false =>
  have hlt : ¬ idx (fun e => e.Name == s) l ≥ 0 := by
   have := idx_any (fun e : State => e.Name == s) l
   rw [h] at this
   exact of_decide_eq_false this
  have hf : l.find? (fun e => e.Name == s) = none := by
   rw [List.find?_eq_none]
   intro x hx hc
   have := List.any_eq_false.1 h x hx
   exact this hc
  rw [hf]
  simp [hlt, ifB]
theorem expr_eq (c : Chart) (l : List State) (A : Int) (Cs : List Chart) (Is : List Inst) (Hs : List Chan) (Es : List Cert) (hN : big ≤ N) (hc : (c.Vars.length : Int) ≤ 16385) (hl : l.length < big) : ∀ (d : Nat) (R : Type) (e : Expr) (C At : Int) (k : Int → Int → Option R), szE e < d → szE e < big →
  (Fam_sound_checker_expr_at N d).sound_checker_expr R c.Name c.Steps c.Fuel c.Vars c.Ports c.Timers c.States c.At e.Kind e.N e.Name e.Kids e.At A Cs Is Hs Es C At l k = kf k (orF (C, At) (exF (prOf c l) e)) := by
 have hb : big = 1000000000 := rfl
 intro d
 induction d with
 | zero => intro R e C At k h; have := szE_pos e; omega
 | succ d ih =>
  intro R e C At k hd hs
  obtain ⟨K, n, s, kids, a⟩ := e
  rw [szE_eq] at hd hs
  have hk := szEs_len kids
  rw [sound_checker_expr_at]
  unfold sound_checker_expr_d
  have c7 : ∀ (C At : Int), sound_checker_expr_c7 (Fam_sound_checker_expr_at N d) N A Cs Is Hs Es C At l c.Name c.Steps c.Fuel c.Vars c.Ports c.Timers c.States c.At K n s kids a (fun y z => k y z) = kf k (orF (C, At) (exFs (prOf c l) kids)) := by
   intro C At
   unfold sound_checker_expr_c7
   have := folds (fun pre e a => orF a (exF (prOf c l) e)) (kf k) (l := kids) (by omega) (fun n i (a : Flt) => sound_checker_expr_l1 (Fam_sound_checker_expr_at N d) N kids ((kids.length : Nat) : Int) A Cs Is Hs Es l c.Name c.Steps c.Fuel c.Vars c.Ports c.Timers c.States c.At (fun y z => k y z) n i a.1 a.2) (fun n pre e rest a h h1 h2 => ?_) (fun n a => ?_) kids [] (C, At) N rfl (by omega)
   ·rw [exFs_fold] at this
    exact this
   ·have he : e ∈ kids := by rw [h]; simp
    have := szEs_mem he
    simp only [sound_checker_expr_l1, sound_checker_expr_l1_b, h1, h2, if_true, Option.bind_some]
    rw [ih _ _ _ _ _ (by omega) (by omega), kf_eq]
   ·simp only [sound_checker_expr_l1, sound_checker_expr_l1_b]
    simp [kf]
  simp only [exF]
  rw [← orF_assoc]
  by_cases h2 : K = 2
  ·have h2' : (K == 2) = true := by simp [h2]
   rw [if_pos h2', if_pos h2]
   unfold sound_find_Named
   rw [ifNamed_eq _ _ _ hN (by omega)]
   dsimp only
   rw [want_eq _ _ _ _ _ _ _ _ _ _ (by decide), idx_any, kf_eq, c7]
   rfl
  ·have h2' : ¬ (K == 2) = true := by simp [h2]
   rw [if_neg h2', if_neg h2]
   by_cases h4 : K = 4
   ·have h4' : (K == 4) = true := by simp [h4]
    rw [if_pos h4', if_pos h4]
    unfold sound_find_State_2
    rw [ifState3_eq _ _ _ hN hl]
    refine (congrArg (fun x => Option.bind x _) (find_in (N := N) l s)).trans ?_
    rw [Option.bind_some]
    rw [want_eq _ _ _ _ _ _ _ _ _ _ (by decide), kf_eq, c7]
    rfl
   ·have h4' : ¬ (K == 4) = true := by simp [h4]
    rw [if_neg h4', if_neg h4, c7]
    simp [chk, orF_zero]
theorem szA_pos (e : Act) : 1 ≤ szA e := by cases e; rw [szA_eq]; have := szEs_pos ‹List Expr›; have := szAs_pos; rename_i a b _ _; have h1 := this a; have h2 := this b; omega
theorem szAs_len : ∀ l : List Act, (l.length : Int) ≤ szAs l
 | [] => by simp [szAs]
 | e :: r => by have := szAs_len r; have := szA_pos e; simp only [List.length_cons, szAs]; omega
theorem szAs_mem : ∀ {l : List Act} {e : Act}, e ∈ l → szA e ≤ szAs l
 | x :: r, e, h => by
  simp only [szAs]
  rcases List.mem_cons.1 h with rfl | h
  ·have := szAs_pos r; omega
  ·have := szAs_mem h; have := szA_pos x; omega
theorem acFs_fold (P : Pr) : ∀ (l pre : List Act) (a : Flt), foldP (fun _ e a => orF a (acF P e)) pre l a = orF a (acFs P l) := by
 intro l
 induction l with
 | nil => intro pre a; simp only [foldP, acFs]; rw [orF_zero]
 | cons e r ih => intro pre a; simp only [foldP, acFs, ih]; rw [orF_assoc]
theorem exprs_loop (c : Chart) (l : List State) (A : Int) (Cs : List Chart) (Is : List Inst) (Hs : List Chan) (Es : List Cert) (hN : big ≤ N) (hc : (c.Vars.length : Int) ≤ 16385) (hl : l.length < big) (e : Expr) (C At : Int) (k : Int → Int → Option R) (h : szE e < big) :
  sound_checker_expr N c.Name c.Steps c.Fuel c.Vars c.Ports c.Timers c.States c.At e.Kind e.N e.Name e.Kids e.At A Cs Is Hs Es C At l k = kf k (orF (C, At) (exF (prOf c l) e)) := by
 unfold sound_checker_expr
 exact expr_eq c l A Cs Is Hs Es hN hc hl N R e C At k (by omega) h
def ChLen (c : Chart) : Prop := (c.Vars.length : Int) ≤ 16385 ∧ (c.Ports.length : Int) ≤ 16385 ∧ (c.Timers.length : Int) ≤ 16385
theorem acts_eqd (c : Chart) (l : List State) (A : Int) (Cs : List Chart) (Is : List Inst) (Hs : List Chan) (Es : List Cert) (hN : big ≤ N) (hc : ChLen c) (hl : l.length < big) : ∀ (d : Nat) (R : Type) (e : List Act) (C At : Int) (k : Int → Int → Option R), szAs e < d → szAs e < big →
  (Fam_sound_checker_acts_at N d).sound_checker_acts R c.Name c.Steps c.Fuel c.Vars c.Ports c.Timers c.States c.At e A Cs Is Hs Es C At l k = kf k (orF (C, At) (acFs (prOf c l) e)) := by
 have hb : big = 1000000000 := rfl
 intro d
 induction d with
 | zero => intro R e C At k h; have := szAs_pos e; omega
 | succ d ih =>
  intro R e C At k hd hs
  have hk := szAs_len e
  rw [sound_checker_acts_at]
  unfold sound_checker_acts_d
  have := folds (fun pre e a => orF a (acF (prOf c l) e)) (kf k) (l := e) (by omega) (fun n i (a : Flt) => sound_checker_acts_l0 (Fam_sound_checker_acts_at N d) N e ((e.length : Nat) : Int) A Cs Is Hs Es l c.Name c.Steps c.Fuel c.Vars c.Ports c.Timers c.States c.At (fun y z => k y z) n i a.1 a.2) (fun n pre x rest a h h1 h2 => ?_) (fun n a => ?_) e [] (C, At) N rfl (by omega)
  ·rw [acFs_fold] at this
   exact this
  ·have hx : x ∈ e := by rw [h]; simp
   have hxs := szAs_mem hx
   obtain ⟨K, s, ev, X, nn, T, EE, at_⟩ := x
   rw [szA_eq] at hxs
   have p1 := szEs_pos X; have p2 := szAs_pos T; have p3 := szAs_pos EE
   have p4 := szEs_len X
   simp only [sound_checker_acts_l0, sound_checker_acts_l0_b, h1, h2, if_true, Option.bind_some]
   have c13 : ∀ (b : Bool) (rec : Int → Int → Option R), sound_checker_acts_c13 (Fam_sound_checker_acts_at N d) N b e ((e.length : Nat) : Int) pre.length A Cs Is Hs Es a.1 a.2 l c.Name c.Steps c.Fuel c.Vars c.Ports c.Timers c.States c.At K s ev X nn T EE at_ rec = kf rec (orF a (orF (chk b 7 at_) (orF (chk (K != 7 || (decide (nn ≥ 1) && decide (nn ≤ 16))) 16 at_) (orF (exFs (prOf c l) X) (orF (acFs (prOf c l) T) (acFs (prOf c l) EE)))))) := by
    intro b rec
    unfold sound_checker_acts_c13
    rw [want_eq _ _ _ _ _ _ _ _ _ _ (by decide), kf_eq]
    simp only [within_eq, ifB_or, Option.bind_some]
    rw [want_eq _ _ _ _ _ _ _ _ _ _ (by decide), kf_eq]
    have hX := folds (fun pre e a => orF a (exF (prOf c l) e)) (fun f : Flt => kf rec (orF (orF f (acFs (prOf c l) T)) (acFs (prOf c l) EE))) (l := X) (by omega) (fun n i (f : Flt) => sound_checker_acts_l3 (Fam_sound_checker_acts_at N d) N e ((e.length : Nat) : Int) pre.length X ((X.length : Nat) : Int) A Cs Is Hs Es l c.Name c.Steps c.Fuel c.Vars c.Ports c.Timers c.States c.At K s ev X nn T EE at_ (fun (y89 : Int) (y90 : Int) =>
 (Fam_sound_checker_acts_at N d).sound_checker_acts _ c.Name c.Steps c.Fuel c.Vars c.Ports c.Timers c.States c.At T A Cs Is Hs Es y89 y90 l (fun (r91 : Int) (r92 : Int) =>
 (Fam_sound_checker_acts_at N d).sound_checker_acts _ c.Name c.Steps c.Fuel c.Vars c.Ports c.Timers c.States c.At EE A Cs Is Hs Es r91 r92 l (fun (r93 : Int) (r94 : Int) =>
 rec r93 r94))) n i f.1 f.2) (fun n pre x rest f h h1 h2 => ?_) (fun n f => ?_) X []
    ·have := hX (orF (orF a (chk b 7 at_)) (chk (K != 7 || (decide (nn ≥ 1) && decide (nn ≤ 16))) 16 at_)) N rfl (by omega)
     rw [exFs_fold] at this
     simp only [List.length_nil] at this
     refine Eq.trans this ?_
     simp only [orF_assoc]
    ·have hx : x ∈ X := by rw [h]; simp
     have := szEs_mem hx
     simp only [sound_checker_acts_l3, sound_checker_acts_l3_b, h1, h2, if_true, Option.bind_some]
     rw [exprs_loop c l A Cs Is Hs Es hN hc.1 hl _ _ _ _ (by omega), kf_eq]
    ·simp only [sound_checker_acts_l3, sound_checker_acts_l3_b]
     simp only [Int.lt_irrefl, decide_false, Bool.false_eq_true, if_false]
     rw [ih _ _ _ _ _ (by omega) (by omega), kf_eq, ih _ _ _ _ _ (by omega) (by omega)]
   have c12 : ∀ (q : Bool) (kk : Bool → Option R), sound_checker_acts_c12 (Fam_sound_checker_acts_at N d) N true e ((e.length : Nat) : Int) pre.length q A Cs Is Hs Es a.1 a.2 l c.Name c.Steps c.Fuel c.Vars c.Ports c.Timers c.States c.At K s ev X nn T EE at_ kk = kk (if q = true then (prOf c l).t s else true) := by
    intro q kk
    unfold sound_checker_acts_c12
    split
    ·unfold sound_find_Named
     rw [ifNamed_eq _ _ _ hN (by have := hc.2.2; omega)]
     simp only [idx_any]
     rfl
    ·rfl
   simp only [acF, there]
   unfold sound_find_Named
   by_cases e1 : K = 1
   ·subst e1
    simp only [beq_self_eq_true, if_true]
    rw [ifNamed_eq _ _ _ hN (by have := hc.1; omega)]
    simp only [idx_any, c13]
    rfl
   by_cases e3 : K = 3
   ·subst e3
    simp only [show ((3 : Int) == 1) = false from rfl, show ¬ ((3 : Int) = 1) from by decide, Bool.false_eq_true, beq_self_eq_true, if_true, if_false]
    rw [ifNamed_eq _ _ _ hN (by have := hc.2.1; omega)]
    simp only [idx_any, c13]
    rfl
   have b1 : (K == 1) = false := by simp [e1]
   have b3 : (K == 3) = false := by simp [e3]
   simp only [b1, b3, e1, e3, Bool.false_eq_true, if_false]
   by_cases e4 : K = 4
   ·subst e4
    simp only [beq_self_eq_true, if_true, c12, c13, true_or]
    rfl
   have b4 : (K == 4) = false := by simp [e4]
   simp only [b4, e4, Bool.false_eq_true, if_false, c12, c13, false_or, beq_iff_eq]
   rfl
  ·simp only [sound_checker_acts_l0, sound_checker_acts_l0_b]
   simp [kf]
theorem acts_eq (c : Chart) (l : List State) (A : Int) (Cs : List Chart) (Is : List Inst) (Hs : List Chan) (Es : List Cert) (hN : big ≤ N) (hc : ChLen c) (hl : l.length < big) (e : List Act) (C At : Int) (k : Int → Int → Option R) (h : szAs e < big) :
  sound_checker_acts N c.Name c.Steps c.Fuel c.Vars c.Ports c.Timers c.States c.At e A Cs Is Hs Es C At l k = kf k (orF (C, At) (acFs (prOf c l) e)) := by
 unfold sound_checker_acts
 exact acts_eqd c l A Cs Is Hs Es hN hc hl N R e C At k (by omega) h
theorem trans_eq (c : Chart) (l : List State) (A : Int) (Cs : List Chart) (Is : List Inst) (Hs : List Chan) (Es : List Cert) (hN : big ≤ N) (hc : ChLen c) (hl : l.length < big) (t : Trans) (n C At : Int) (k : Int → Int → Option R) (h : szT t < big) :
  sound_checker_trans N c.Name c.Steps c.Fuel c.Vars c.Ports c.Timers c.States c.At t.Event t.Guard t.Target t.Acts t.At n A Cs Is Hs Es C At l k = kf k (orF (C, At) (trF (prOf c l) n t)) := by
 have hb : big = 1000000000 := rfl
 have p1 := szEs_pos t.Guard; have p2 := szAs_pos t.Acts; have p3 := szEs_len t.Guard
 unfold szT at h
 unfold sound_checker_trans
 rw [want_eq _ _ _ _ _ _ _ _ _ _ (by decide), kf_eq]
 unfold sound_find_State_2
 simp only [ifState3_eq _ _ _ hN hl, idx_any, ifB_or, Option.bind_some]
 rw [want_eq _ _ _ _ _ _ _ _ _ _ (by decide), kf_eq]
 have hX := folds (fun pre e a => orF a (exF (prOf c l) e)) (fun f : Flt => kf k (orF f (acFs (prOf c l) t.Acts))) (l := t.Guard) (by omega) (fun n i (f : Flt) => sound_checker_trans_l0 N t.Guard ((t.Guard.length : Nat) : Int) A Cs Is Hs Es l c.Name c.Steps c.Fuel c.Vars c.Ports c.Timers c.States c.At t.Event t.Guard t.Target t.Acts t.At (fun (y34 : Int) (y35 : Int) =>
 sound_checker_acts N c.Name c.Steps c.Fuel c.Vars c.Ports c.Timers c.States c.At t.Acts A Cs Is Hs Es y34 y35 l (fun (r36 : Int) (r37 : Int) =>
 k r36 r37)) n i f.1 f.2) (fun n pre x rest f h h1 h2 => ?_) (fun n f => ?_) t.Guard []
 ·have := hX (orF (orF (C, At) (chk (decide (n ≤ 96)) 15 t.At)) (chk (t.Target == [] || l.any fun e => e.Name == t.Target) 7 t.At)) N rfl (by omega)
  rw [exFs_fold] at this
  simp only [List.length_nil] at this
  refine Eq.trans this ?_
  unfold trF
  simp only [orF_assoc]
  rfl
 ·have hx : x ∈ t.Guard := by rw [h]; simp
  have := szEs_mem hx
  simp only [sound_checker_trans_l0, sound_checker_trans_l0_b, h1, h2, if_true, Option.bind_some]
  rw [exprs_loop c l A Cs Is Hs Es hN hc.1 hl _ _ _ _ (by omega), kf_eq]
 ·simp only [sound_checker_trans_l0, sound_checker_trans_l0_b]
  simp only [Int.lt_irrefl, decide_false, Bool.false_eq_true, if_false]
  rw [acts_eq c l A Cs Is Hs Es hN hc hl _ _ _ _ (by omega)]
end
section
variable {R : Type} {N : Nat}
theorem szS_pos (s : State) : 1 ≤ szS s := by
 obtain ⟨k, n, en, ex, tr, kids, a⟩ := s
 rw [szS_eq]
 have := szAs_pos en; have := szAs_pos ex; have := szTs_pos tr; have := szSs_pos kids
 omega
theorem szSs_len : ∀ l : List State, (l.length : Int) ≤ szSs l
 | [] => by simp [szSs]
 | e :: r => by have := szSs_len r; have := szS_pos e; simp only [List.length_cons, szSs]; omega
theorem szTs_len : ∀ l : List Trans, (l.length : Int) ≤ szTs l
 | [] => by simp [szTs]
 | e :: r => by have := szTs_len r; have := szEs_pos e.Guard; have := szAs_pos e.Acts; simp only [List.length_cons, szTs, szT]; omega
theorem szTs_mem : ∀ {l : List Trans} {e : Trans}, e ∈ l → szT e ≤ szTs l
 | x :: r, e, h => by
  simp only [szTs]
  rcases List.mem_cons.1 h with rfl | h
  ·have := szTs_pos r; omega
  ·have := szTs_mem h; have := szEs_pos x.Guard; have := szAs_pos x.Acts; simp only [szT] at *; omega
theorem szS_kids (s : State) : 1 + szSs s.Kids ≤ szS s := by
 obtain ⟨k, n, en, ex, tr, kids, a⟩ := s
 rw [szS_eq]
 have := szAs_pos en; have := szAs_pos ex; have := szTs_pos tr
 simp only; omega
theorem szS_parts (s : State) : szAs s.Entry ≤ szS s ∧ szAs s.Exit ≤ szS s ∧ szTs s.Trans ≤ szS s := by
 obtain ⟨k, n, en, ex, tr, kids, a⟩ := s
 rw [szS_eq]
 have := szAs_pos en; have := szAs_pos ex; have := szTs_pos tr; have := szSs_pos kids
 simp only; omega
theorem flS_cons (s : State) : flS s = s :: flL s.Kids := by cases s; simp [flS]
theorem tr1_eq (top : Bool) (out : List State) (s : State) : tr1 top out s = orF (chkS top out s) (trL false (out ++ [s]) s.Kids) := by cases s; simp [tr1]
theorem flL_sz : ∀ l : List State, (∀ s ∈ flL l, szS s ≤ szSs l) ∧ ((flL l).length : Int) ≤ szSs l ∧ ((flL l).map fun s => (s.Trans.length : Int)).sum ≤ szSs l := by
 intro l
 refine State.rec_1 (motive_1 := fun s => (∀ x ∈ flS s, szS x ≤ szS s) ∧ ((flS s).length : Int) ≤ szS s ∧ ((flS s).map fun s => (s.Trans.length : Int)).sum ≤ szS s) (motive_2 := fun l => (∀ s ∈ flL l, szS s ≤ szSs l) ∧ ((flL l).length : Int) ≤ szSs l ∧ ((flL l).map fun s => (s.Trans.length : Int)).sum ≤ szSs l) ?_ ?_ ?_ l
 ·intro k n en ex tr kids a ih
  rw [flS_cons, szS_eq]
  have := szAs_pos en; have := szAs_pos ex; have := szTs_pos tr; have := szTs_len tr; have := szSs_pos kids
  refine ⟨fun x hx => ?_, ?_, ?_⟩
  ·rcases List.mem_cons.1 hx with rfl | hx
   ·rw [szS_eq]; omega
   ·have := ih.1 x hx; omega
  ·simp only [List.length_cons]; have := ih.2.1; omega
  ·simp only [List.map_cons, List.sum_cons]; have := ih.2.2; omega
 ·simp [flL, szSs]
 ·intro s r h1 h2
  simp only [flL, szSs, List.mem_append, List.length_append, List.map_append, List.sum_append]
  have p1 := szS_pos s; have p2 := szSs_pos r
  refine ⟨fun x hx => ?_, by have := h1.2.1; have := h2.2.1; omega, by have := h1.2.2; have := h2.2.2; omega⟩
  rcases hx with hx | hx
  ·have := h1.1 x hx; omega
  ·have := h2.1 x hx; omega
theorem set_last {α : Type} (l : List α) (x y : α) : (l ++ [x]).set l.length y = l ++ [y] := by simp
theorem sound_checker_tree_2_c6_eq (F : Fam_sound_checker_tree_2) (A : Int) (Cs : List Chart) (Is : List Inst) (Hs : List Chan) (Es : List Cert) (top b : Bool) (x1 : List State) (x2 x3 C At : Int) (out : List State) (s : State) (kp0 kp1 : Int → Int → List State → Option R) (ho : (out.length : Int) < big) :
  sound_checker_tree_2_c6 F N top b x1 x2 x3 A Cs Is Hs Es C At out s.Kind s.Name s.Entry s.Exit s.Trans s.Kids s.At kp0 kp1 =
   (if (orF (C, At) (chk (!b) 17 s.At)).1 ≠ 0 then kp0 (orF (C, At) (chk (!b) 17 s.At)).1 (orF (C, At) (chk (!b) 17 s.At)).2 (out ++ [s]) else F.sound_checker_tree_2 R s.Kids false A Cs Is Hs Es (orF (C, At) (chk (!b) 17 s.At)).1 (orF (C, At) (chk (!b) 17 s.At)).2 (out ++ [s]) kp1) := by
 have hb : big = 1000000000 := rfl
 obtain ⟨s1, s2, s3, s4, s5, s6, s7⟩ := s
 unfold sound_checker_tree_2_c6
 rw [want_eq _ _ _ _ _ _ _ _ _ _ (by decide), kf_eq]
 rw [if_pos (by simp [maxRow]; omega), if_pos (by simp; omega)]
 have hg : (out ++ ([(⟨0, [], [], [], [], [], 0⟩ : State)]))[((out.length : Nat) : Int).toNat]? = some ⟨0, [], [], [], [], [], 0⟩ := by simp
 rw [hg]
 dsimp only
 rw [Int.toNat_natCast, set_last]
 by_cases h : (orF (C, At) (chk (!b) 17 s7)).1 = 0
 ·rw [if_neg (by simp [h]), if_neg (by simp [h])]
 ·rw [if_pos (by simp [h]), if_pos h]
theorem sound_checker_tree_2_loop (A : Int) (Cs : List Chart) (Is : List Inst) (Hs : List Chan) (Es : List Cert) (hN : big ≤ N) (F : Fam_sound_checker_tree_2) (top : Bool) (l : List State) (k : Int → Int → List State → Option R) (hl : szSs l < 20000)
  (hF : ∀ (e : State), e ∈ l → ∀ (C At : Int) (out : List State) (k : Int → Int → List State → Option R), out.length + szSs e.Kids < 400000000 → ∃ o', F.sound_checker_tree_2 R e.Kids false A Cs Is Hs Es C At out k = k (orF (C, At) (trL false out e.Kids)).1 (orF (C, At) (trL false out e.Kids)).2 o' ∧ ((orF (C, At) (trL false out e.Kids)).1 = 0 → o' = out ++ flL e.Kids) ∧ (o'.length : Int) ≤ out.length + szSs e.Kids ∧ ∀ s ∈ o', s ∈ out ∨ s ∈ flL e.Kids) : ∀ (rest pre : List State) (n : Nat) (C At : Int) (out : List State), l = pre ++ rest → rest.length < n → out.length + szSs rest < 400000000 →
  ∃ o', sound_checker_tree_2_l0 F N top l ((l.length : Nat) : Int) A Cs Is Hs Es k k n pre.length C At out = k (orF (C, At) (trL top out rest)).1 (orF (C, At) (trL top out rest)).2 o' ∧ ((orF (C, At) (trL top out rest)).1 = 0 → o' = out ++ flL rest) ∧ (o'.length : Int) ≤ out.length + szSs rest ∧ ∀ s ∈ o', s ∈ out ∨ s ∈ flL rest := by
 have hb : big = 1000000000 := rfl
 intro rest
 induction rest with
 | nil =>
  intro pre n C At out h hn ho
  obtain ⟨n, rfl⟩ : ∃ m, n = m + 1 := ⟨n - 1, by omega⟩
  have : l = pre := by simpa using h
  subst this
  refine ⟨out, ?_, fun _ => by simp [flL], by simp [szSs], fun s hs => .inl hs⟩
  simp only [sound_checker_tree_2_l0, sound_checker_tree_2_l0_b, trL, orF_zero]
  simp
 | cons e r ih =>
  intro pre n C At out h hn ho
  obtain ⟨n, rfl⟩ : ∃ m, n = m + 1 := ⟨n - 1, by omega⟩
  have hlen : l.length = pre.length + (r.length + 1) := by rw [h]; simp
  have hll := szSs_len l
  have he : e ∈ l := by rw [h]; simp
  have hes : szS e + szSs r ≤ szSs l := by rw [h, szSs_app]; have := szSs_pos pre; simp only [szSs]; omega
  have hk := szS_kids e; have hkl := szSs_len e.Kids; have hkp := szSs_pos e.Kids; have hrp := szSs_pos r
  simp only [szSs] at ho
  have hat : at? l pre.length = some e := at_some (by omega) (by rw [h]; simp)
  have hd : decide (((pre.length : Nat) : Int) < ((l.length : Nat) : Int)) = true := by simp; omega
  simp only [sound_checker_tree_2_l0, sound_checker_tree_2_l0_b, hd, hat, if_true, Option.bind_some]
  rw [want_eq _ _ _ _ _ _ _ _ _ _ (by decide), kf_eq, twState_eq _ _ _ hN (by omega), want_eq _ _ _ _ _ _ _ _ _ _ (by decide), kf_eq]
  simp only [hist_eq, contS_eq _ _ hN (show e.Kids.length < big by omega), ifB_and, ifB_or, Option.bind_some]
  rw [sound_checker_tree_2_c6_eq F A Cs Is Hs Es top _ _ _ _ _ _ out e _ _ (by omega)]
  have hf1 : orF (orF (orF (C, At) (chk (decide (((out.length : Nat) : Int) < 63)) 15 e.At)) (chk (!out.any fun x => x.Name == e.Name) 8 e.At)) (chk (!((top && isH e || (e.Kind == 2 && !e.Kids.any fun e => !isH e)) || (decide (((e.Kids.length : Nat) : Int) > 0) && !e.Kids.any fun e => !isH e))) 17 e.At) = orF (C, At) (chkS top out e) := by
   unfold chkS badS
   simp only [orF_assoc]
  have hf1' := hf1
  simp only [Prod.eta] at hf1' ⊢
  rw [hf1']
  have htr : orF (C, At) (trL top out (e :: r)) = orF (orF (orF (C, At) (chkS top out e)) (trL false (out ++ [e]) e.Kids)) (trL top (out ++ flS e) r) := by
   simp only [trL, tr1_eq, orF_assoc]
  rw [htr]
  by_cases hc : (orF (C, At) (chkS top out e)).1 = 0
  ·rw [if_neg (by simp [hc])]
   obtain ⟨o2, h1, h2, h3, h4⟩ := hF e he (orF (C, At) (chkS top out e)).1 (orF (C, At) (chkS top out e)).2 (out ++ [e]) (fun (y56 : Int) (y57 : Int) (y58 : List State) => sound_checker_tree_2_l0 F N top l ((l.length : Nat) : Int) A Cs Is Hs Es k k n (IntKind.wrap .i64 (((pre.length : Nat) : Int) + 1)) y56 y57 y58) (by simp; omega)
   rw [h1]
   have hr : IntKind.wrap .i64 (((pre.length : Nat) : Int) + 1) = (((pre ++ [e]).length : Nat) : Int) := by rw [wr _ (by omega) (by omega)]; simp
   rw [hr]
   simp only [List.length_append, List.length_singleton] at h3
   obtain ⟨o3, g1, g2, g3, g4⟩ := ih (pre ++ [e]) n (orF (orF (C, At) (chkS top out e)) (trL false (out ++ [e]) e.Kids)).1 (orF (orF (C, At) (chkS top out e)) (trL false (out ++ [e]) e.Kids)).2 o2 (by rw [h]; simp) (by simp at hn; omega) (by omega)
   simp only [Prod.eta] at g1 g2 g3
   have hsame : orF (orF (orF (C, At) (chkS top out e)) (trL false (out ++ [e]) e.Kids)) (trL top o2 r) = orF (orF (orF (C, At) (chkS top out e)) (trL false (out ++ [e]) e.Kids)) (trL top (out ++ flS e) r) := by
    by_cases hz : (orF (orF (C, At) (chkS top out e)) (trL false (out ++ [e]) e.Kids)).1 = 0
    ·rw [h2 hz, flS_cons]; simp
    ·rw [orF_ne _ hz, orF_ne _ hz]
   rw [hsame] at g1 g2
   refine ⟨o3, g1, fun hz => ?_, ?_, fun s hs => ?_⟩
   ·rw [g2 hz, h2 (orF_fst.1 hz).1]
    simp [flL, flS_cons]
   ·simp only [szSs]; omega
   ·simp only [flL, List.mem_append, flS_cons, List.mem_cons]
    rcases g4 s hs with hs | hs
    ·rcases h4 s hs with hs | hs
     ·rcases List.mem_append.1 hs with hs | hs
      ·exact .inl hs
      ·exact .inr (.inl (.inl (List.mem_singleton.1 hs)))
     ·exact .inr (.inl (.inr hs))
    ·exact .inr (.inr hs)
  ·rw [if_pos hc]
   have h1 : orF (orF (orF (C, At) (chkS top out e)) (trL false (out ++ [e]) e.Kids)) (trL top (out ++ flS e) r) = orF (C, At) (chkS top out e) := by
    rw [orF_ne (a := orF (C, At) (chkS top out e)) _ hc, orF_ne _ hc]
   rw [h1]
   refine ⟨out ++ [e], rfl, fun h => absurd h hc, ?_, fun s hs => ?_⟩
   ·have := szS_pos e
    simp only [List.length_append, List.length_singleton, szSs]; omega
   ·rcases List.mem_append.1 hs with hs | hs
    ·exact .inl hs
    ·right
     rw [List.mem_singleton.1 hs]
     simp [flL, flS_cons]
theorem tree2_eqd (A : Int) (Cs : List Chart) (Is : List Inst) (Hs : List Chan) (Es : List Cert) (hN : big ≤ N) : ∀ (d : Nat) (R : Type) (top : Bool) (l : List State) (C At : Int) (out : List State) (k : Int → Int → List State → Option R), szSs l < d → szSs l < 20000 → out.length + szSs l < 400000000 →
  ∃ o', (Fam_sound_checker_tree_2_at N d).sound_checker_tree_2 R l top A Cs Is Hs Es C At out k = k (orF (C, At) (trL top out l)).1 (orF (C, At) (trL top out l)).2 o' ∧ ((orF (C, At) (trL top out l)).1 = 0 → o' = out ++ flL l) ∧ (o'.length : Int) ≤ out.length + szSs l ∧ ∀ s ∈ o', s ∈ out ∨ s ∈ flL l := by
 have hb : big = 1000000000 := rfl
 intro d
 induction d with
 | zero => intro R top l C At out k h; have := szSs_pos l; omega
 | succ d ih =>
  intro R top l C At out k hd hs ho
  rw [sound_checker_tree_2_at]
  unfold sound_checker_tree_2_d
  have hll := szSs_len l
  refine sound_checker_tree_2_loop A Cs Is Hs Es hN _ top l _ hs (fun e he C At out k ho => ?_) l [] N C At out rfl (by omega) ho
  have : szS e ≤ szSs l := by
   have : ∀ l : List State, e ∈ l → szS e ≤ szSs l := by
    intro l
    induction l with
    | nil => intro h; cases h
    | cons x r ih =>
     intro h
     have := szSs_pos r; have := szS_pos x
     simp only [szSs]
     rcases List.mem_cons.1 h with rfl | h
     ·omega
     ·have := ih h; omega
   exact this l he
  have := szS_kids e
  exact ih R false e.Kids C At out k (by omega) (by omega) ho
theorem tree2_eq (A : Int) (Cs : List Chart) (Is : List Inst) (Hs : List Chan) (Es : List Cert) (hN : big ≤ N) (top : Bool) (l : List State) (C At : Int) (out : List State) (k : Int → Int → List State → Option R) (h1 : szSs l < 20000) (h2 : out.length + szSs l < 400000000) :
  ∃ o', sound_checker_tree_2 N l top A Cs Is Hs Es C At out k = k (orF (C, At) (trL top out l)).1 (orF (C, At) (trL top out l)).2 o' ∧ ((orF (C, At) (trL top out l)).1 = 0 → o' = out ++ flL l) ∧ (o'.length : Int) ≤ out.length + szSs l ∧ ∀ s ∈ o', s ∈ out ∨ s ∈ flL l := by
 have hb : big = 1000000000 := rfl
 unfold sound_checker_tree_2
 exact tree2_eqd A Cs Is Hs Es hN N R top l C At out k (by omega) h1 h2
theorem sound_checker_tree_c6_eq (A : Int) (Cs : List Chart) (Is : List Inst) (Hs : List Chan) (Es : List Cert) (top b : Bool) (x1 : List State) (x2 x3 C At : Int) (out : List State) (s : State) (kp0 kp1 : Int → Int → List State → Option R) (ho : (out.length : Int) < big) :
  sound_checker_tree_c6 N top b x1 x2 x3 A Cs Is Hs Es C At out s.Kind s.Name s.Entry s.Exit s.Trans s.Kids s.At kp0 kp1 =
   (if (orF (C, At) (chk (!b) 17 s.At)).1 ≠ 0 then kp0 (orF (C, At) (chk (!b) 17 s.At)).1 (orF (C, At) (chk (!b) 17 s.At)).2 (out ++ [s]) else sound_checker_tree_2 N s.Kids false A Cs Is Hs Es (orF (C, At) (chk (!b) 17 s.At)).1 (orF (C, At) (chk (!b) 17 s.At)).2 (out ++ [s]) kp1) := by
 have hb : big = 1000000000 := rfl
 obtain ⟨s1, s2, s3, s4, s5, s6, s7⟩ := s
 unfold sound_checker_tree_c6
 rw [want_eq _ _ _ _ _ _ _ _ _ _ (by decide), kf_eq]
 rw [if_pos (by simp [maxRow]; omega), if_pos (by simp; omega)]
 have hg : (out ++ ([(⟨0, [], [], [], [], [], 0⟩ : State)]))[((out.length : Nat) : Int).toNat]? = some ⟨0, [], [], [], [], [], 0⟩ := by simp
 rw [hg]
 dsimp only
 rw [Int.toNat_natCast, set_last]
 by_cases h : (orF (C, At) (chk (!b) 17 s7)).1 = 0
 ·rw [if_neg (by simp [h]), if_neg (by simp [h])]
 ·rw [if_pos (by simp [h]), if_pos h]
theorem sound_checker_tree_loop (A : Int) (Cs : List Chart) (Is : List Inst) (Hs : List Chan) (Es : List Cert) (hN : big ≤ N) (top : Bool) (l : List State) (k : Int → Int → List State → Option R) (hl : szSs l < 20000)
  : ∀ (rest pre : List State) (n : Nat) (C At : Int) (out : List State), l = pre ++ rest → rest.length < n → out.length + szSs rest < 400000000 →
  ∃ o', sound_checker_tree_l0 N top l ((l.length : Nat) : Int) A Cs Is Hs Es k k n pre.length C At out = k (orF (C, At) (trL top out rest)).1 (orF (C, At) (trL top out rest)).2 o' ∧ ((orF (C, At) (trL top out rest)).1 = 0 → o' = out ++ flL rest) ∧ (o'.length : Int) ≤ out.length + szSs rest ∧ ∀ s ∈ o', s ∈ out ∨ s ∈ flL rest := by
 have hb : big = 1000000000 := rfl
 intro rest
 induction rest with
 | nil =>
  intro pre n C At out h hn ho
  obtain ⟨n, rfl⟩ : ∃ m, n = m + 1 := ⟨n - 1, by omega⟩
  have : l = pre := by simpa using h
  subst this
  refine ⟨out, ?_, fun _ => by simp [flL], by simp [szSs], fun s hs => .inl hs⟩
  simp only [sound_checker_tree_l0, sound_checker_tree_l0_b, trL, orF_zero]
  simp
 | cons e r ih =>
  intro pre n C At out h hn ho
  obtain ⟨n, rfl⟩ : ∃ m, n = m + 1 := ⟨n - 1, by omega⟩
  have hlen : l.length = pre.length + (r.length + 1) := by rw [h]; simp
  have hll := szSs_len l
  have he : e ∈ l := by rw [h]; simp
  have hes : szS e + szSs r ≤ szSs l := by rw [h, szSs_app]; have := szSs_pos pre; simp only [szSs]; omega
  have hk := szS_kids e; have hkl := szSs_len e.Kids; have hkp := szSs_pos e.Kids; have hrp := szSs_pos r
  simp only [szSs] at ho
  have hat : at? l pre.length = some e := at_some (by omega) (by rw [h]; simp)
  have hd : decide (((pre.length : Nat) : Int) < ((l.length : Nat) : Int)) = true := by simp; omega
  simp only [sound_checker_tree_l0, sound_checker_tree_l0_b, hd, hat, if_true, Option.bind_some]
  rw [want_eq _ _ _ _ _ _ _ _ _ _ (by decide), kf_eq, twState_eq _ _ _ hN (by omega), want_eq _ _ _ _ _ _ _ _ _ _ (by decide), kf_eq]
  simp only [hist_eq, contS_eq _ _ hN (show e.Kids.length < big by omega), ifB_and, ifB_or, Option.bind_some]
  rw [sound_checker_tree_c6_eq A Cs Is Hs Es top _ _ _ _ _ _ out e _ _ (by omega)]
  have hf1 : orF (orF (orF (C, At) (chk (decide (((out.length : Nat) : Int) < 63)) 15 e.At)) (chk (!out.any fun x => x.Name == e.Name) 8 e.At)) (chk (!((top && isH e || (e.Kind == 2 && !e.Kids.any fun e => !isH e)) || (decide (((e.Kids.length : Nat) : Int) > 0) && !e.Kids.any fun e => !isH e))) 17 e.At) = orF (C, At) (chkS top out e) := by
   unfold chkS badS
   simp only [orF_assoc]
  have hf1' := hf1
  simp only [Prod.eta] at hf1' ⊢
  rw [hf1']
  have htr : orF (C, At) (trL top out (e :: r)) = orF (orF (orF (C, At) (chkS top out e)) (trL false (out ++ [e]) e.Kids)) (trL top (out ++ flS e) r) := by
   simp only [trL, tr1_eq, orF_assoc]
  rw [htr]
  by_cases hc : (orF (C, At) (chkS top out e)).1 = 0
  ·rw [if_neg (by simp [hc])]
   obtain ⟨o2, h1, h2, h3, h4⟩ := tree2_eq A Cs Is Hs Es hN false e.Kids (orF (C, At) (chkS top out e)).1 (orF (C, At) (chkS top out e)).2 (out ++ [e]) (fun (y56 : Int) (y57 : Int) (y58 : List State) => sound_checker_tree_l0 N top l ((l.length : Nat) : Int) A Cs Is Hs Es k k n (IntKind.wrap .i64 (((pre.length : Nat) : Int) + 1)) y56 y57 y58) (by omega) (by simp; omega)
   rw [h1]
   have hr : IntKind.wrap .i64 (((pre.length : Nat) : Int) + 1) = (((pre ++ [e]).length : Nat) : Int) := by rw [wr _ (by omega) (by omega)]; simp
   rw [hr]
   simp only [List.length_append, List.length_singleton] at h3
   obtain ⟨o3, g1, g2, g3, g4⟩ := ih (pre ++ [e]) n (orF (orF (C, At) (chkS top out e)) (trL false (out ++ [e]) e.Kids)).1 (orF (orF (C, At) (chkS top out e)) (trL false (out ++ [e]) e.Kids)).2 o2 (by rw [h]; simp) (by simp at hn; omega) (by omega)
   simp only [Prod.eta] at g1 g2 g3
   have hsame : orF (orF (orF (C, At) (chkS top out e)) (trL false (out ++ [e]) e.Kids)) (trL top o2 r) = orF (orF (orF (C, At) (chkS top out e)) (trL false (out ++ [e]) e.Kids)) (trL top (out ++ flS e) r) := by
    by_cases hz : (orF (orF (C, At) (chkS top out e)) (trL false (out ++ [e]) e.Kids)).1 = 0
    ·rw [h2 hz, flS_cons]; simp
    ·rw [orF_ne _ hz, orF_ne _ hz]
   rw [hsame] at g1 g2
   refine ⟨o3, g1, fun hz => ?_, ?_, fun s hs => ?_⟩
   ·rw [g2 hz, h2 (orF_fst.1 hz).1]
    simp [flL, flS_cons]
   ·simp only [szSs]; omega
   ·simp only [flL, List.mem_append, flS_cons, List.mem_cons]
    rcases g4 s hs with hs | hs
    ·rcases h4 s hs with hs | hs
     ·rcases List.mem_append.1 hs with hs | hs
      ·exact .inl hs
      ·exact .inr (.inl (.inl (List.mem_singleton.1 hs)))
     ·exact .inr (.inl (.inr hs))
    ·exact .inr (.inr hs)
  ·rw [if_pos hc]
   have h1 : orF (orF (orF (C, At) (chkS top out e)) (trL false (out ++ [e]) e.Kids)) (trL top (out ++ flS e) r) = orF (C, At) (chkS top out e) := by
    rw [orF_ne (a := orF (C, At) (chkS top out e)) _ hc, orF_ne _ hc]
   rw [h1]
   refine ⟨out ++ [e], rfl, fun h => absurd h hc, ?_, fun s hs => ?_⟩
   ·have := szS_pos e
    simp only [List.length_append, List.length_singleton, szSs]; omega
   ·rcases List.mem_append.1 hs with hs | hs
    ·exact .inl hs
    ·right
     rw [List.mem_singleton.1 hs]
     simp [flL, flS_cons]
theorem tree_eq (A : Int) (Cs : List Chart) (Is : List Inst) (Hs : List Chan) (Es : List Cert) (hN : big ≤ N) (top : Bool) (l : List State) (C At : Int) (k : Int → Int → List State → Option R) (hl : szSs l < 20000) :
  ∃ o', sound_checker_tree N l top A Cs Is Hs Es C At k = k (orF (C, At) (trL top [] l)).1 (orF (C, At) (trL top [] l)).2 o' ∧ ((orF (C, At) (trL top [] l)).1 = 0 → o' = flL l) ∧ (o'.length : Int) ≤ szSs l ∧ ∀ s ∈ o', s ∈ flL l := by
 have hb : big = 1000000000 := rfl
 have hll := szSs_len l
 unfold sound_checker_tree
 obtain ⟨o', h1, h2, h3, h4⟩ := sound_checker_tree_loop A Cs Is Hs Es hN top l k hl l [] N C At [] rfl (by omega) (by simp; omega)
 refine ⟨o', h1, fun h => by simpa using h2 h, by simpa using h3, fun s hs => by simpa using h4 s hs⟩
end
def w1 (n : Int) : Int := IntKind.wrap .i64 (n + 1)
def tsW (P : Pr) (a : Int × Flt) (t : Trans) : Int × Flt := (w1 a.1, orF a.2 (trF P (w1 a.1) t))
def stW (P : Pr) (a : Int × Flt) (s : State) : Int × Flt := if isH s = true then a else s.Trans.foldl (tsW P) (a.1, orF (orF a.2 (acFs P s.Entry)) (acFs P s.Exit))
theorem foldP_foldl {E A : Type} (g : A → E → A) : ∀ (l pre : List E) (a : A), foldP (fun _ e a => g a e) pre l a = l.foldl g a := by
 intro l
 induction l with
 | nil => intro pre a; rfl
 | cons e r ih => intro pre a; exact ih _ _
theorem tsW_ne (P : Pr) : ∀ (l : List Trans) (a : Int × Flt), a.2.1 ≠ 0 → (l.foldl (tsW P) a).2 = a.2
 | [], a, h => rfl
 | t :: r, a, h => by
  simp only [List.foldl_cons]
  have h1 : (tsW P a t).2 = a.2 := orF_ne _ h
  rw [tsW_ne P r _ (by rw [h1]; exact h), h1]
theorem stW_ne (P : Pr) : ∀ (l : List State) (a : Int × Flt), a.2.1 ≠ 0 → (l.foldl (stW P) a).2 = a.2
 | [], a, h => rfl
 | s :: r, a, h => by
  simp only [List.foldl_cons]
  have h1 : (stW P a s).2 = a.2 := by
   unfold stW
   split
   ·rfl
   ·have h2 : orF (orF a.2 (acFs P s.Entry)) (acFs P s.Exit) = a.2 := by rw [orF_ne (a := a.2) _ h, orF_ne _ h]
    rw [tsW_ne P _ _ (by simp only; rw [h2]; exact h)]
    exact h2
  rw [stW_ne P r _ (by rw [h1]; exact h), h1]
theorem tsW_eq (P : Pr) : ∀ (l : List Trans) (n : Int) (f : Flt), 0 ≤ n → n + l.length < 1000000000000 → l.foldl (tsW P) (n, f) = (n + l.length, orF f (trsF P n l))
 | [], n, f, _, _ => by simp [trsF, orF_zero]
 | t :: r, n, f, h0, h1 => by
  simp only [List.length_cons] at h1
  have hw : w1 n = n + 1 := wr _ (by omega) (by omega)
  simp only [List.foldl_cons, tsW, hw]
  rw [tsW_eq P r (n + 1) _ (by omega) (by omega)]
  simp only [trsF, orF_assoc, List.length_cons]
  congr 1
  omega
theorem stW_eq (P : Pr) : ∀ (l : List State) (n : Int) (f : Flt), 0 ≤ n → n + (l.map fun s => (s.Trans.length : Int)).sum < 1000000000000 → (l.foldl (stW P) (n, f)).2 = orF f (inF P n l)
 | [], n, f, _, _ => by simp [inF, orF_zero]
 | s :: r, n, f, h0, h1 => by
  simp only [List.map_cons, List.sum_cons] at h1
  have hp : ∀ l : List State, 0 ≤ (l.map fun s => (s.Trans.length : Int)).sum := by
   intro l
   induction l with
   | nil => simp
   | cons x r ih => simp only [List.map_cons, List.sum_cons]; omega
  have hr := hp r
  simp only [List.foldl_cons, stW, inF]
  split
  ·exact stW_eq P r n f h0 (by omega)
  ·rw [tsW_eq P _ _ _ h0 (by omega), stW_eq P r _ _ (by omega) (by omega)]
   simp only [orF_assoc]
section
variable {R : Type} {N : Nat}
theorem chart_loop (c : Chart) (l : List State) (A : Int) (Cs : List Chart) (Is : List Inst) (Hs : List Chan) (Es : List Cert) (hN : big ≤ N) (hc : ChLen c) (hl : l.length < big) (hs : ∀ s ∈ l, szS s < big) (C At : Int) (k : Int → Int → Option R) :
  sound_checker_chart_l0 N ((l.length : Nat) : Int) A Cs Is Hs Es c.Name c.Steps c.Fuel c.Vars c.Ports c.Timers c.States c.At l k N 0 0 C At = kf k (l.foldl (stW (prOf c l)) (0, (C, At))).2 := by
 have hb : big = 1000000000 := rfl
 have := folds (fun pre e a => stW (prOf c l) a e) (fun a : Int × Flt => kf k a.2) hl (fun n i (a : Int × Flt) => sound_checker_chart_l0 N ((l.length : Nat) : Int) A Cs Is Hs Es c.Name c.Steps c.Fuel c.Vars c.Ports c.Timers c.States c.At l k n a.1 i a.2.1 a.2.2) (fun n pre e rest a h h1 h2 => ?_) (fun n a => ?_) l [] (0, (C, At)) N rfl (by omega)
 ·rw [foldP_foldl] at this
  exact this
 ·have he : e ∈ l := by rw [h]; simp
  have hse := hs e he
  obtain ⟨q1, q2, q3⟩ := szS_parts e
  have q4 := szTs_len e.Trans
  have hlt : pre.length < l.length := by simpa using h1
  have hg : l[((pre.length : Nat) : Int).toNat]? = some e := by rw [h]; simp
  simp only [sound_checker_chart_l0, sound_checker_chart_l0_b, h1, if_true]
  rw [if_pos ⟨by omega, by omega⟩, hg]
  dsimp only
  rw [hist_eq]
  unfold stW
  split
  ·rfl
  ·rw [acts_eq c l A Cs Is Hs Es hN hc hl _ _ _ _ (by omega), kf_eq, acts_eq c l A Cs Is Hs Es hN hc hl _ _ _ _ (by omega), kf_eq]
   have hT := folds (fun pre t a => tsW (prOf c l) a t) (fun b : Int × Flt => sound_checker_chart_l0 N ((l.length : Nat) : Int) A Cs Is Hs Es c.Name c.Steps c.Fuel c.Vars c.Ports c.Timers c.States c.At l k n b.1 (IntKind.wrap .i64 (((pre.length : Nat) : Int) + 1)) b.2.1 b.2.2) (l := e.Trans) (by omega) (fun m i (b : Int × Flt) => sound_checker_chart_l2 N ((l.length : Nat) : Int) ((pre.length : Nat) : Int) e.Trans ((e.Trans.length : Nat) : Int) A Cs Is Hs Es c.Name c.Steps c.Fuel c.Vars c.Ports c.Timers c.States c.At l (fun (y83 : Int) (y84 : Int) (y85 : Int) =>
 sound_checker_chart_l0 N ((l.length : Nat) : Int) A Cs Is Hs Es c.Name c.Steps c.Fuel c.Vars c.Ports c.Timers c.States c.At l k n y83 (IntKind.wrap .i64 (((pre.length : Nat) : Int) + 1)) y84 y85) m b.1 i b.2.1 b.2.2) (fun m pre2 t rest2 b h' h1' h2' => ?_) (fun m b => ?_) e.Trans [] (a.1, orF (orF a.2 (acFs (prOf c l) e.Entry)) (acFs (prOf c l) e.Exit)) N rfl (by omega)
   ·rw [foldP_foldl] at hT
    exact hT
   ·have ht : t ∈ e.Trans := by rw [h']; simp
    have := szTs_mem ht
    simp only [sound_checker_chart_l2, sound_checker_chart_l2_b, h1', h2', if_true, Option.bind_some]
    rw [trans_eq c l A Cs Is Hs Es hN hc hl _ _ _ _ _ (by omega), kf_eq]
    rfl
   ·simp only [sound_checker_chart_l2, sound_checker_chart_l2_b]
    simp only [Int.lt_irrefl, decide_false, Bool.false_eq_true, if_false]
 ·simp only [sound_checker_chart_l0, sound_checker_chart_l0_b]
  simp [kf]
def ChOk' (c : Chart) : Prop := ChLen c ∧ szSs c.States < 20000
theorem chart_eq (c : Chart) (A : Int) (Cs : List Chart) (Is : List Inst) (Hs : List Chan) (Es : List Cert) (hN : big ≤ N) (hc : ChOk' c) (C At : Int) (k : Int → Int → Option R) :
  sound_checker_chart N c.Name c.Steps c.Fuel c.Vars c.Ports c.Timers c.States c.At A Cs Is Hs Es C At k = kf k (orF (C, At) (chF c)) := by
 have hb : big = 1000000000 := rfl
 obtain ⟨hc, hs⟩ := hc
 have hl := szSs_len c.States
 unfold sound_checker_chart
 simp only [within_eq, ifB_and, Option.bind_some]
 rw [want_eq _ _ _ _ _ _ _ _ _ _ (by decide), kf_eq, contS_eq _ _ hN (by omega), want_eq _ _ _ _ _ _ _ _ _ _ (by decide), kf_eq]
 unfold sound_checker_chart_c3
 rw [names_eq _ _ _ _ _ _ _ _ _ _ hN (by have := hc.1; omega), kf_eq, names_eq _ _ _ _ _ _ _ _ _ _ hN (by have := hc.2.1; omega), kf_eq, names_eq _ _ _ _ _ _ _ _ _ _ hN (by have := hc.2.2; omega), kf_eq]
 have hhead : orF (orF (orF (orF (orF (C, At) (chk (decide (c.Steps ≥ 2) && decide (c.Steps ≤ 16) && (decide (c.Fuel ≥ 1) && decide (c.Fuel ≤ 4096))) 16 c.At)) (chk (c.States.any fun e => !isH e) 7 c.At)) (gP (nameG 8) [] c.Vars)) (gP (nameG 6) [] c.Ports)) (gP (nameG 6) [] c.Timers) = orF (C, At) (chHead c) := by
  unfold chHead
  simp only [orF_assoc]
 simp only [Prod.eta]
 rw [hhead]
 obtain ⟨o', h1, h2, h3, h4⟩ := tree_eq A Cs Is Hs Es hN true c.States (orF (C, At) (chHead c)).1 (orF (C, At) (chHead c)).2 (fun (r30 : Int) (r31 : Int) (r32 : List State) =>
 sound_checker_chart_l0 N ((r32.length : Nat) : Int) A Cs Is Hs Es c.Name c.Steps c.Fuel c.Vars c.Ports c.Timers c.States c.At r32 (fun (y86 : Int) (y87 : Int) =>
 k y86 y87) N 0 0 r30 r31) hs
 rw [h1]
 simp only [Prod.eta] at h2 ⊢
 obtain ⟨f1, f2, f3⟩ := flL_sz c.States
 rw [chart_loop c o' A Cs Is Hs Es hN hc (by omega) (fun s hs' => by have := f1 s (h4 s hs'); omega)]
 congr 1
 unfold chF
 rw [← orF_assoc, ← orF_assoc]
 simp only [Prod.eta]
 by_cases hz : (orF (orF (C, At) (chHead c)) (trL true [] c.States)).1 = 0
 ·rw [h2 hz, stW_eq _ _ _ _ (by omega) (by omega)]
 ·rw [stW_ne _ _ _ hz, orF_ne _ hz]
end
def c0 : Chart := ⟨[], 0, 0, [], [], [], [], 0⟩
def chOf (Cs : List Chart) (Is : List Inst) (n : List UInt8) : Option Chart := (Is.find? fun e => e.Name == n).bind fun i => Cs.find? fun e => e.Name == i.Chart
def instG (Cs : List Chart) (pre : List Inst) (x : Inst) : Flt := orF (chk (!pre.any fun e => e.Name == x.Name) 8 x.At) (orF (chk (Cs.any fun e => e.Name == x.Chart) 7 x.At) (chk ((decide (x.Quantum ≥ 1) && decide (x.Quantum ≤ 65536)) && (decide (x.Ext ≥ 0) && decide (x.Ext ≤ 32)) && (decide (x.Prio ≥ 0) && decide (x.Prio ≤ 7))) 16 x.At))
def chanG (Cs : List Chart) (Is : List Inst) (pre : List Chan) (x : Chan) : Flt := orF (chk (!pre.any fun e => e.Name == x.Name) 8 x.At) (orF (chk ((chOf Cs Is x.From).isSome && (chOf Cs Is x.To).isSome && ((chOf Cs Is x.From).getD c0).Ports.any fun e => e.Name == x.Port) 7 x.At) (orF (chk (!pre.any fun y => y.From == x.From && y.Port == x.Port) 8 x.At) (chk ((decide (x.Cap ≥ 1) && decide (x.Cap ≤ 32)) && (decide (x.Prio ≥ 0) && decide (x.Prio ≤ 7))) 16 x.At)))
def joinG (Cs : List Chart) (Is : List Inst) (Hs : List Chan) (x : Inst) : Flt := gP (fun _ (p : Named) => chk (Hs.any fun y => y.From == x.Name && y.Port == p.Name) 7 x.At) [] ((chOf Cs Is x.Name).getD c0).Ports
mutual
def hasN (set : List (List UInt8)) : State → Int
 | ⟨_, n, _, _, _, kids, _⟩ => (if kids.length = 0 then (((set.filter fun e => e == n).length : Nat) : Int) else 0) + hasL set kids
def hasL (set : List (List UInt8)) : List State → Int
 | [] => 0
 | s :: r => hasN set s + hasL set r
end
mutual
def ok1 (set : List (List UInt8)) : State → Bool
 | ⟨k, n, en, ex, tr, kids, a⟩ => if kids.length = 0 then hasN set ⟨k, n, en, ex, tr, kids, a⟩ == 1 else (actL (k == 2) set kids 0 0).2
def actL (all : Bool) (set : List (List UInt8)) : List State → Int → Int → Int × Bool
 | [], sum, so => (sum, all || so == 1)
 | s :: r, sum, so => if (hasN set s == 0 && !all) = true then actL all set r sum so else if ok1 set s = true then actL all set r (sum + hasN set s) (so + 1) else (0, false)
end
def leavesB (l : List State) (set : List (List UInt8)) : Bool := (actL false set l 0 0).2 && (actL false set l 0 0).1 == ((set.length : Nat) : Int)
section
variable {R : Type} {N : Nat}
theorem find_at {E : Type} {p : E → Bool} {l : List E} (h : ¬ idx p l < 0) : ∃ e, at? l (idx p l) = some e ∧ l.find? p = some e := by
 have : l.any p = true := by
  have := idx_any p l
  rw [← this]; simp; omega
 obtain ⟨e, h1, _, h3⟩ := idx_some this
 exact ⟨e, h1, h3⟩
theorem find_none {E : Type} {p : E → Bool} {l : List E} (h : idx p l < 0) : l.find? p = none := by
 have h' : l.any p = false := by
  have := idx_any p l
  rw [← this]; simp; omega
 rw [List.find?_eq_none]
 intro x hx hc
 exact List.any_eq_false.1 h' x hx hc
theorem find_isSome {E : Type} (p : E → Bool) (l : List E) : (l.find? p).isSome = l.any p := by
 induction l with
 | nil => rfl
 | cons e r ih => simp only [List.find?_cons, List.any_cons]; cases p e <;> simp [ih]
theorem chartOf_eq (n : List UInt8) (A : Int) (Cs : List Chart) (Is : List Inst) (Hs : List Chan) (Es : List Cert) (C At : Int) (k : (List UInt8) → Int → Int → (List Named) → (List Named) → (List Named) → (List State) → Int → Bool → Option R) (hN : big ≤ N) (hc : Cs.length < big) (hi : Is.length < big) :
  sound_checker_chartOf N n A Cs Is Hs Es C At k = (fun c : Chart => k c.Name c.Steps c.Fuel c.Vars c.Ports c.Timers c.States c.At (chOf Cs Is n).isSome) ((chOf Cs Is n).getD c0) := by
 unfold sound_checker_chartOf sound_find_Inst sound_find_Chart chOf
 rw [ifInst_eq _ _ _ hN hi]
 by_cases h : idx (fun e => e.Name == n) Is < 0
 ·simp only [h, decide_true, if_true, find_none h]
  rfl
 ·obtain ⟨e, h1, h2⟩ := find_at h
  simp only [h, decide_false, Bool.false_eq_true, if_false, h1, h2, Option.bind_some]
  rw [ifChart_eq _ _ _ hN hc]
  by_cases h' : idx (fun x => x.Name == e.Chart) Cs < 0
  ·simp only [h', decide_true, if_true, find_none h']
   rfl
  ·obtain ⟨c, h3, h4⟩ := find_at h'
   simp only [h', decide_false, Bool.false_eq_true, if_false, h3, h4, Option.bind_some]
   rfl
theorem inst_eq (pre : List Inst) (x : Inst) (rest : List Inst) (A : Int) (Cs : List Chart) (Is : List Inst) (Hs : List Chan) (Es : List Cert) (C At : Int) (k : Int → Int → Option R) (hN : big ≤ N) (hc : Cs.length < big) (hi : Is.length < big) (h : Is = pre ++ x :: rest) :
  sound_checker_inst N pre.length x.Name x.Chart x.Quantum x.Ext x.Prio x.At A Cs Is Hs Es C At k = kf k (orF (C, At) (instG Cs pre x)) := by
 have hp : pre.length ≤ Is.length := by rw [h]; simp
 unfold sound_checker_inst sound_find_Chart
 rw [if_pos (g01 hp), take_pre h, twInst_eq _ _ _ hN (by omega), want_eq _ _ _ _ _ _ _ _ _ _ (by decide), kf_eq, ifChart_eq _ _ _ hN hc]
 dsimp only
 rw [want_eq _ _ _ _ _ _ _ _ _ _ (by decide), kf_eq]
 simp only [within_eq, ifB_and, Option.bind_some, idx_any]
 rw [want_eq _ _ _ _ _ _ _ _ _ _ (by decide)]
 unfold instG
 simp only [Prod.eta, orF_assoc]
theorem channel_eq (pre : List Chan) (x : Chan) (rest : List Chan) (A : Int) (Cs : List Chart) (Is : List Inst) (Hs : List Chan) (Es : List Cert) (C At : Int) (k : Int → Int → Option R) (hN : big ≤ N) (hc : Cs.length < big) (hi : Is.length < big) (hh : Hs.length < big) (hcs : ∀ c ∈ Cs, ChLen c) (h : Hs = pre ++ x :: rest) :
  sound_checker_channel N pre.length x.Name x.From x.Port x.To x.Cap x.Prio x.At A Cs Is Hs Es C At k = kf k (orF (C, At) (chanG Cs Is pre x)) := by
 have hb : big = 1000000000 := rfl
 have hp : pre.length ≤ Hs.length := by rw [h]; simp
 have hports : (((chOf Cs Is x.From).getD c0).Ports.length : Int) ≤ 16385 := by
  cases hq : chOf Cs Is x.From with
  | none => simp [c0]
  | some c =>
   unfold chOf at hq
   obtain ⟨i, _, h2⟩ := Option.bind_eq_some_iff.1 hq
   exact (hcs c (List.mem_of_find?_eq_some h2)).2.1
 unfold sound_checker_channel sound_checker_channel_c5 sound_find_Named
 rw [if_pos (g01 hp), take_pre h, twChan_eq _ _ _ hN (by omega), want_eq _ _ _ _ _ _ _ _ _ _ (by decide), kf_eq]
 simp only [chartOf_eq _ _ _ _ _ _ _ _ _ hN hc hi, ifNamed_eq _ _ _ hN (show ((chOf Cs Is x.From).getD c0).Ports.length < big by omega), idx_any, ifB_and, Option.bind_some, Bool.and_assoc]
 rw [want_eq _ _ _ _ _ _ _ _ _ _ (by decide), kf_eq, if_pos (g01 hp), contC_eq _ _ _ hN (by omega), want_eq _ _ _ _ _ _ _ _ _ _ (by decide), kf_eq]
 simp only [within_eq, ifB_and, Option.bind_some]
 rw [want_eq _ _ _ _ _ _ _ _ _ _ (by decide)]
 unfold chanG
 simp only [Prod.eta, orF_assoc, Bool.and_assoc]
theorem joined_eq (x : Inst) (A : Int) (Cs : List Chart) (Is : List Inst) (Hs : List Chan) (Es : List Cert) (C At : Int) (k : Int → Int → Option R) (hN : big ≤ N) (hc : Cs.length < big) (hi : Is.length < big) (hh : Hs.length < big) (hcs : ∀ c ∈ Cs, ChLen c) :
  sound_checker_joined N x.Name x.Chart x.Quantum x.Ext x.Prio x.At A Cs Is Hs Es C At k = kf k (orF (C, At) (joinG Cs Is Hs x)) := by
 have hb : big = 1000000000 := rfl
 have hports : (((chOf Cs Is x.Name).getD c0).Ports.length : Int) ≤ 16385 := by
  cases hq : chOf Cs Is x.Name with
  | none => simp [c0]
  | some c =>
   unfold chOf at hq
   obtain ⟨i, _, h2⟩ := Option.bind_eq_some_iff.1 hq
   exact (hcs c (List.mem_of_find?_eq_some h2)).2.1
 unfold sound_checker_joined
 simp only [chartOf_eq _ _ _ _ _ _ _ _ _ hN hc hi]
 unfold joinG
 generalize ((chOf Cs Is x.Name).getD c0).Ports = P at hports
 have hX := folds (fun _ p a => orF a (chk (Hs.any fun y => y.From == x.Name && y.Port == p.Name) 7 x.At)) (kf k) (l := P) (by omega) (fun n i (f : Flt) => sound_checker_joined_l0 N P ((P.length : Nat) : Int) A Cs Is Hs Es x.Name x.Chart x.Quantum x.Ext x.Prio x.At (fun y z => k y z) n i f.1 f.2) (fun n pre p rest f h h1 h2 => ?_) (fun n f => ?_) P [] (C, At) N rfl (by omega)
 ·rw [foldP_orF (fun _ (p : Named) => chk (Hs.any fun y => y.From == x.Name && y.Port == p.Name) 7 x.At)] at hX
  exact hX
 ·simp only [sound_checker_joined_l0, sound_checker_joined_l0_b, h1, h2, if_true, Option.bind_some]
  rw [contJ_eq _ _ _ _ hN hh, want_eq _ _ _ _ _ _ _ _ _ _ (by decide), kf_eq]
 ·simp only [sound_checker_joined_l0, sound_checker_joined_l0_b]
  simp [kf]
theorem flat_eqd (hN : big ≤ N) : ∀ (d : Nat) (R : Type) (l : List State) (k : List State → Option R), szSs l < d → szSs l < 20000 → (Fam_sound_flat_at N d).sound_flat R l k = k (flL l) := by
 have hb : big = 1000000000 := rfl
 intro d
 induction d with
 | zero => intro R l k h; have := szSs_pos l; omega
 | succ d ih =>
  intro R l k hd hs
  have hll := szSs_len l
  rw [sound_flat_at]
  unfold sound_flat_d
  have key : ∀ (rest pre : List State) (n : Nat) (out : List State), l = pre ++ rest → rest.length < n → out.length + szSs rest < 100000 → sound_flat_l0 (Fam_sound_flat_at N d) N l ((l.length : Nat) : Int) (fun y => k y) n pre.length out = k (out ++ flL rest) := by
   intro rest
   induction rest with
   | nil =>
    intro pre n out h hn ho
    obtain ⟨n, rfl⟩ : ∃ m, n = m + 1 := ⟨n - 1, by omega⟩
    have : l = pre := by simpa using h
    subst this
    simp [sound_flat_l0, sound_flat_l0_b, flL]
   | cons e r ihr =>
    intro pre n out h hn ho
    obtain ⟨n, rfl⟩ : ∃ m, n = m + 1 := ⟨n - 1, by omega⟩
    have hlen : l.length = pre.length + (r.length + 1) := by rw [h]; simp
    have he : szS e + szSs r ≤ szSs l := by rw [h, szSs_app]; have := szSs_pos pre; simp only [szSs]; omega
    have hk := szS_kids e; have hrp := szSs_pos r
    simp only [szSs] at ho
    have hat : at? l pre.length = some e := at_some (by omega) (by rw [h]; simp)
    have hdc : decide (((pre.length : Nat) : Int) < ((l.length : Nat) : Int)) = true := by simp; omega
    obtain ⟨_, f2, _⟩ := flL_sz e.Kids
    have hkp := szSs_pos e.Kids
    have hee : (⟨e.Kind, e.Name, e.Entry, e.Exit, e.Trans, e.Kids, e.At⟩ : State) = e := by cases e; rfl
    simp only [sound_flat_l0, sound_flat_l0_b, hdc, hat, if_true, Option.bind_some, hee]
    rw [if_pos (by simp [maxRow]; omega), ih _ _ _ (by omega) (by omega)]
    rw [if_pos (by simp [maxRow]; omega), wr _ (by omega) (by omega), show (((pre.length : Nat) : Int) + 1) = (((pre ++ [e]).length : Nat) : Int) by simp]
    rw [ihr (pre ++ [e]) n _ (by rw [h]; simp) (by simp at hn; omega) (by simp; omega)]
    simp [flL, flS_cons]
  have := key l [] N [] rfl (by omega) (by simp; omega)
  simpa using this
theorem flat_eq (hN : big ≤ N) (l : List State) (k : List State → Option R) (h : szSs l < 20000) : sound_flat N l k = k (flL l) := by
 have hb : big = 1000000000 := rfl
 unfold sound_flat
 exact flat_eqd hN N R l k (by omega) h
theorem hasN_eq (set : List (List UInt8)) (s : State) : hasN set s = (if s.Kids.length = 0 then (((set.filter fun e => e == s.Name).length : Nat) : Int) else 0) + hasL set s.Kids := by cases s; simp [hasN]
end
theorem cntW (nm : List UInt8) : ∀ (l : List (List UInt8)) (a : Int), 0 ≤ a → a + l.length < 1000000000000 → l.foldl (fun a e => if (e == nm) = true then w1 a else a) a = a + (((l.filter fun e => e == nm).length : Nat) : Int)
 | [], a, _, _ => by simp
 | e :: r, a, h0, h1 => by
  simp only [List.length_cons] at h1
  simp only [List.foldl_cons]
  cases he : e == nm with
  | true =>
   have hw : w1 a = a + 1 := wr _ (by omega) (by omega)
   simp only [if_true, hw]
   rw [cntW nm r (a + 1) (by omega) (by omega)]
   simp only [List.filter_cons, he, if_true, List.length_cons]; omega
  | false =>
   simp only [Bool.false_eq_true, if_false]
   rw [cntW nm r a h0 (by omega)]
   simp only [List.filter_cons, he, Bool.false_eq_true, if_false]
theorem has_bd (set : List (List UInt8)) : ∀ l : List State, 0 ≤ hasL set l ∧ hasL set l ≤ set.length * szSs l := by
 have hM : (0 : Int) ≤ set.length := by omega
 intro l
 refine State.rec_1 (motive_1 := fun s => 0 ≤ hasN set s ∧ hasN set s ≤ set.length * szS s) (motive_2 := fun l => 0 ≤ hasL set l ∧ hasL set l ≤ set.length * szSs l) ?_ ?_ ?_ l
 ·intro k n en ex tr kids a ih
  rw [szS_eq]
  simp only [hasN]
  have h1 : (((set.filter fun e => e == n).length : Nat) : Int) ≤ set.length := by have := List.length_filter_le (fun e => e == n) set; omega
  have p1 := szAs_pos en; have p2 := szAs_pos ex; have p3 := szTs_pos tr; have p4 := szSs_pos kids
  have h2 : (set.length : Int) * (1 + szSs kids) ≤ set.length * (1 + szAs en + szAs ex + szTs tr + szSs kids) := Int.mul_le_mul_of_nonneg_left (by omega) hM
  rw [Int.mul_add, Int.mul_one] at h2
  split <;> (constructor <;> omega)
 ·simp [hasL, szSs]
 ·intro s r h1 h2
  simp only [hasL, szSs]
  rw [Int.mul_add]
  constructor <;> omega
theorem hasN_bd (set : List (List UInt8)) (s : State) : 0 ≤ hasN set s ∧ hasN set s ≤ set.length * szS s := by
 have := has_bd set [s]
 simpa [hasL, szSs] using this
theorem hasW (set : List (List UInt8)) : ∀ (l : List State) (a : Int), 0 ≤ a → a + set.length * szSs l < 1000000000000 → l.foldl (fun a s => IntKind.wrap .i64 (a + hasN set s)) a = a + hasL set l
 | [], a, _, _ => by simp [hasL]
 | s :: r, a, h0, h1 => by
  obtain ⟨p1, p2⟩ := hasN_bd set s
  obtain ⟨p3, p4⟩ := has_bd set r
  simp only [szSs, Int.mul_add] at h1
  simp only [List.foldl_cons, hasL]
  rw [wr _ (by omega) (by omega), hasW set r _ (by omega) (by omega)]
  omega
theorem at_zip {α β : Type} {a : List α} {b : List β} {i : Int} {e : α × β} (h : at? (a.zip b) i = some e) : at? a i = some e.1 ∧ at? b i = some e.2 := by
 unfold at? at *
 split at h
 ·cases h
 ·rename_i hi
  rw [if_neg hi, if_neg hi]
  rw [List.getElem?_zip_eq_some] at h
  exact h
def sameSetB (a b : List (List UInt8)) : Bool := (((a.length : Nat) : Int) == ((b.length : Nat) : Int)) && !a.any fun e => !b.any fun y => e == y
def setsB (a b : List (List (List UInt8))) : Bool := decide (a.length = b.length) && (a.zip b).all fun p => sameSetB p.1 p.2
def rowB (a b : List (List UInt8)) : Bool := decide (a.length = b.length) && (a.zip b).all fun p => p.1 == p.2
def rowsB (a b : List (List (List UInt8))) : Bool := decide (a.length = b.length) && (a.zip b).all fun p => rowB p.1 p.2
def alikeB (x y : Cell) : Bool := setsB x.Sets y.Sets && rowsB x.Msgs y.Msgs
def setsOk (Cs : List Chart) (Is : List Inst) (x : Cert) (c : Cell) : Bool := (c.Sets.zip x.Insts).all fun p => (decide (((p.1.length : Nat) : Int) > 0) && !leavesB ((chOf Cs Is p.2).getD c0).States p.1) == false
def msgsOk (Hs : List Chan) (x : Cert) (c : Cell) : Bool := (c.Msgs.zip x.Chans).all fun p => match Hs.find? fun e => e.Name == p.2 with
 | some h => decide (((p.1.length : Nat) : Int) ≤ h.Cap)
 | none => false
def fitsB (Cs : List Chart) (Is : List Inst) (Hs : List Chan) (x : Cert) (c : Cell) : Bool := decide (c.Sets.length = x.Insts.length) && decide (c.Msgs.length = x.Chans.length) && setsOk Cs Is x c && msgsOk Hs x c
section
variable {R : Type} {N : Nat}
theorem has_eqd (set : List (List UInt8)) (hN : big ≤ N) (hset : (set.length : Int) ≤ 16386) : ∀ (d : Nat) (R : Type) (s : State) (k : Int → Option R), szS s < d → szS s < 20000 → (Fam_sound_has_at N d).sound_has R s.Kind s.Name s.Entry s.Exit s.Trans s.Kids s.At set k = k (hasN set s) := by
 have hb : big = 1000000000 := rfl
 intro d
 induction d with
 | zero => intro R s k h; have := szS_pos s; omega
 | succ d ih =>
  intro R s k hd hs
  have hk := szS_kids s; have hkl := szSs_len s.Kids
  have hM : (set.length : Int) * szSs s.Kids ≤ 16386 * 20000 := by
   have h1 : (set.length : Int) * szSs s.Kids ≤ set.length * 20000 := Int.mul_le_mul_of_nonneg_left (by omega) (by omega)
   have h2 : (set.length : Int) * 20000 ≤ 16386 * 20000 := Int.mul_le_mul_of_nonneg_right hset (by omega)
   omega
  rw [sound_has_at]
  unfold sound_has_d
  have hmem : ∀ (l : List State) (e : State), e ∈ l → szS e ≤ szSs l := by
   intro l
   induction l with
   | nil => intro e h; cases h
   | cons x r ih =>
    intro e h
    have := szSs_pos r; have := szS_pos x
    simp only [szSs]
    rcases List.mem_cons.1 h with rfl | h
    ·omega
    ·have := ih e h; omega
  have c9 : ∀ a, 0 ≤ a → a ≤ 16386 → sound_has_c9 (Fam_sound_has_at N d) N set a s.Kind s.Name s.Entry s.Exit s.Trans s.Kids s.At (fun y => k y) = k (a + hasL set s.Kids) := by
   intro a h0 h1
   unfold sound_has_c9
   have := folds (fun _ e (a : Int) => IntKind.wrap .i64 (a + hasN set e)) k (l := s.Kids) (by omega) (fun n i (a : Int) => sound_has_l2 (Fam_sound_has_at N d) N set s.Kids ((s.Kids.length : Nat) : Int) (fun y => k y) n a i) (fun n pre e rest a h h1 h2 => ?_) (fun n a => ?_) s.Kids [] a N rfl (by omega)
   ·rw [foldP_foldl (fun (a : Int) e => IntKind.wrap .i64 (a + hasN set e)), hasW set _ _ h0 (by omega)] at this
    exact this
   ·have he : e ∈ s.Kids := by rw [h]; simp
    have := hmem _ _ he
    simp only [sound_has_l2, sound_has_l2_b, h1, h2, if_true, Option.bind_some]
    rw [ih _ _ _ (by omega) (by omega)]
   ·simp only [sound_has_l2, sound_has_l2_b]
    simp
  rw [hasN_eq]
  by_cases hz : s.Kids.length = 0
  ·have hz' : (((s.Kids.length : Nat) : Int) == 0) = true := by simp [hz]
   rw [if_pos hz', if_pos hz]
   have := folds (fun _ e (a : Int) => if (e == s.Name) = true then w1 a else a) (fun y => sound_has_c9 (Fam_sound_has_at N d) N set y s.Kind s.Name s.Entry s.Exit s.Trans s.Kids s.At (fun y => k y)) (l := set) (by omega) (fun n i (a : Int) => sound_has_l0 (Fam_sound_has_at N d) N set set ((set.length : Nat) : Int) s.Kind s.Name s.Entry s.Exit s.Trans s.Kids s.At (fun (y14 : Int) => sound_has_c9 (Fam_sound_has_at N d) N set y14 s.Kind s.Name s.Entry s.Exit s.Trans s.Kids s.At (fun (y32 : Int) => k y32)) n a i) (fun n pre e rest a h h1 h2 => ?_) (fun n a => ?_) set [] 0 N rfl (by omega)
   ·rw [foldP_foldl (fun (a : Int) e => if (e == s.Name) = true then w1 a else a), cntW _ _ _ (by omega) (by omega), Int.zero_add] at this
    have hfl := List.length_filter_le (fun e => e == s.Name) set
    rw [c9 _ (by omega) (by omega)] at this
    exact this
   ·simp only [sound_has_l0, sound_has_l0_b, h1, h2, if_true, Option.bind_some]
    split <;> rfl
   ·simp only [sound_has_l0, sound_has_l0_b]
    simp
  ·have hz' : ¬ (((s.Kids.length : Nat) : Int) == 0) = true := by simpa using hz
   rw [if_neg hz', if_neg hz]
   rw [c9 0 (by omega) (by omega)]
theorem has_eq (set : List (List UInt8)) (hN : big ≤ N) (hset : (set.length : Int) ≤ 16386) (s : State) (k : Int → Option R) (hs : szS s < 20000) : sound_has N s.Kind s.Name s.Entry s.Exit s.Trans s.Kids s.At set k = k (hasN set s) := by
 have hb : big = 1000000000 := rfl
 unfold sound_has
 exact has_eqd set hN hset N R s k (by omega) hs
theorem ok1_eq (set : List (List UInt8)) (s : State) : ok1 set s = if s.Kids.length = 0 then hasN set s == 1 else (actL (s.Kind == 2) set s.Kids 0 0).2 := by cases s; simp [ok1]
theorem active_eqd (set : List (List UInt8)) (hN : big ≤ N) (hset : (set.length : Int) ≤ 16386) : ∀ (d : Nat) (R : Type) (l : List State) (all : Bool) (k : Int → Bool → Option R), szSs l < d → szSs l < 20000 → (Fam_sound_active_at N d).sound_active R l all set k = k (actL all set l 0 0).1 (actL all set l 0 0).2 := by
 have hb : big = 1000000000 := rfl
 intro d
 induction d with
 | zero => intro R l all k h; have := szSs_pos l; omega
 | succ d ih =>
  intro R l all k hd hs
  have hll := szSs_len l
  have hM : (set.length : Int) * szSs l ≤ 16386 * 20000 := by
   have h1 : (set.length : Int) * szSs l ≤ set.length * 20000 := Int.mul_le_mul_of_nonneg_left (by omega) (by omega)
   have h2 : (set.length : Int) * 20000 ≤ 16386 * 20000 := Int.mul_le_mul_of_nonneg_right hset (by omega)
   omega
  rw [sound_active_at]
  unfold sound_active_d
  have key : ∀ (rest pre : List State) (n : Nat) (sum so : Int), l = pre ++ rest → rest.length < n → 0 ≤ sum → sum + set.length * szSs rest < 1000000000 → 0 ≤ so → so + rest.length < 1000000000 →
    sound_active_l0 (Fam_sound_active_at N d) N all set l ((l.length : Nat) : Int) (fun (y13 : Int) (y14 : Int) => (ifB all false (some (y14 == 1)) (some true)).bind fun c17 => k y13 c17) (fun (y15 : Int) (y16 : Bool) => k y15 y16) n sum so pre.length = k (actL all set rest sum so).1 (actL all set rest sum so).2 := by
   intro rest
   induction rest with
   | nil =>
    intro pre n sum so h hn _ _ _ _
    obtain ⟨n, rfl⟩ : ∃ m, n = m + 1 := ⟨n - 1, by omega⟩
    have : l = pre := by simpa using h
    subst this
    simp only [sound_active_l0, sound_active_l0_b, actL, ifB_or, Option.bind_some]
    simp
   | cons e r ihr =>
    intro pre n sum so h hn q1 q2 q3 q4
    obtain ⟨n, rfl⟩ : ∃ m, n = m + 1 := ⟨n - 1, by omega⟩
    have hlen : l.length = pre.length + (r.length + 1) := by rw [h]; simp
    have he : szS e + szSs r ≤ szSs l := by rw [h, szSs_app]; have := szSs_pos pre; simp only [szSs]; omega
    have hk := szS_kids e; have hrp := szSs_pos r
    obtain ⟨p1, p2⟩ := hasN_bd set e
    have p3 : (0 : Int) ≤ set.length * szSs r := Int.mul_nonneg (by omega) hrp
    simp only [szSs, Int.mul_add] at q2
    simp only [List.length_cons] at q4
    have hat : at? l pre.length = some e := at_some (by omega) (by rw [h]; simp)
    have hdc : decide (((pre.length : Nat) : Int) < ((l.length : Nat) : Int)) = true := by simp; omega
    have hr : IntKind.wrap .i64 (((pre.length : Nat) : Int) + 1) = (((pre ++ [e]).length : Nat) : Int) := by rw [wr _ (by omega) (by omega)]; simp
    simp only [sound_active_l0, sound_active_l0_b, hdc, hat, if_true, Option.bind_some]
    rw [has_eq set hN hset _ _ (by omega)]
    simp only [ifB_and, Option.bind_some, actL, ok1_eq, hr, wr (sum + hasN set e) (by omega) (by omega), wr (so + 1) (by omega) (by omega)]
    by_cases hc : (hasN set e == 0 && !all) = true
    ·rw [if_pos hc, if_pos hc]
     exact ihr (pre ++ [e]) n sum so (by rw [h]; simp) (by simp at hn; omega) q1 (by omega) q3 (by omega)
    ·rw [if_neg hc, if_neg hc]
     have fin : sound_active_l0 (Fam_sound_active_at N d) N all set l ((l.length : Nat) : Int) (fun (y13 : Int) (y14 : Int) => (ifB all false (some (y14 == 1)) (some true)).bind fun c17 => k y13 c17) (fun (y15 : Int) (y16 : Bool) => k y15 y16) n (sum + hasN set e) (so + 1) (((pre ++ [e]).length : Nat) : Int) = k (actL all set r (sum + hasN set e) (so + 1)).1 (actL all set r (sum + hasN set e) (so + 1)).2 :=
      ihr (pre ++ [e]) n _ _ (by rw [h]; simp) (by simp at hn; omega) (by omega) (by omega) (by omega) (by omega)
     by_cases hz : e.Kids.length = 0
     ·have hz' : (((e.Kids.length : Nat) : Int) == 0) = true := by simp [hz]
      simp only [hz', if_true]
      simp only [hz, if_true]
      by_cases h1 : hasN set e = 1
      ·simp only [h1, bne_self_eq_false, Bool.false_eq_true, if_false, beq_self_eq_true, if_true]
       rw [h1] at fin
       exact fin
      ·have h2 : (hasN set e != 1) = true := by simpa using h1
       have h3 : (hasN set e == 1) = false := by simpa using h1
       simp only [h2, h3, if_true, Bool.false_eq_true, if_false]
     ·have hz' : (((e.Kids.length : Nat) : Int) == 0) = false := by simpa using hz
      simp only [hz', Bool.false_eq_true, if_false]
      simp only [hz, if_false]
      rw [ih _ _ _ _ (by omega) (by omega)]
      cases hq : (actL (e.Kind == 2) set e.Kids 0 0).2 with
      | true =>
       simp only [Bool.not_true, Bool.false_eq_true, if_false, if_true]
       exact fin
      | false => simp only [Bool.not_false, if_true, Bool.false_eq_true, if_false]
  have := key l [] N 0 0 rfl (by omega) (by omega) (by omega) (by omega) (by omega)
  exact this
theorem leaves_eq (set : List (List UInt8)) (hN : big ≤ N) (hset : (set.length : Int) ≤ 16386) (l : List State) (k : Bool → Option R) (hl : szSs l < 20000) : sound_leaves N l set k = k (leavesB l set) := by
 have hb : big = 1000000000 := rfl
 unfold sound_leaves sound_active
 rw [active_eqd set hN hset N _ _ _ _ (by omega) hl]
 simp only [ifB_and, Option.bind_some]
 rfl
end
section
variable {R : Type} {N : Nat}
theorem all_any {E : Type} (p : E → Bool) (l : List E) : l.all p = !l.any fun e => !p e := by
 induction l with
 | nil => rfl
 | cons e r ih => simp only [List.all_cons, List.any_cons, ih]; cases p e <;> simp
theorem zips {α β : Type} (a : List α) (b : List β) (good : α × β → Bool) (K : Bool → Option R) (hl : a.length < big) (hab : a.length = b.length) (G : Nat → Int → Option R)
  (hG : ∀ (n : Nat) (i : Int) e, 0 ≤ i → i < a.length → decide (i < ((a.length : Nat) : Int)) = true → at? a i = some e.1 → at? b i = some e.2 → e ∈ a.zip b → G (n + 1) i = if (!good e) = true then K false else G n (IntKind.wrap .i64 (i + 1)))
  (h0 : ∀ (n : Nat) (i : Int), decide (i < ((a.length : Nat) : Int)) = false → G (n + 1) i = K true) (N : Nat) (hN : a.length < N) : G N 0 = K ((a.zip b).all good) := by
 have hz : (a.zip b).length = a.length := by simp [hab]
 have := search (l := a.zip b) (fun e => !good e) (fun j => K (!decide (j ≥ 0))) (by omega) G (fun n i e q0 q1 q2 q3 q4 => ?_) (fun n i h => ?_) N (by omega)
 ·rw [this, idx_any, all_any]
 ·rw [hz] at q1 q2
  have q3' := at_zip q3
  rw [hG n i e q0 q1 q2 q3'.1 q3'.2 (List.mem_of_getElem? q4)]
  split
  ·simp [q0]
  ·rfl
 ·rw [hz] at h
  rw [h0 n i h]
  simp
theorem contF_eq (s b : List (List UInt8)) (k : Bool → Option R) (hN : big ≤ N) (hs : s.length < big) (hb : b.length < big) : slices_ContainsFunc_string N s b k = k (s.any fun e => !b.any fun y => e == y) := by
 unfold slices_ContainsFunc_string slices_IndexFunc_string
 have := search (fun e => !b.any fun y => e == y) (fun r1 => k (decide (r1 ≥ 0))) hs (fun n i => slices_IndexFunc_string_l0 N s ((s.length : Nat) : Int) b (k (decide (((-1 : Int)) ≥ 0))) (fun y => k (decide (y ≥ 0))) n i) (fun n i e h0 h1 h2 h3 h4 => ?_) (fun n i h => ?_) N (by omega)
 ·rw [← idx_any]; exact this
 ·simp only [slices_IndexFunc_string_l0, slices_IndexFunc_string_l0_b, h2, h3, if_true, Option.bind_some]
  unfold sound_sameSet_1
  rw [conts_eq _ _ _ hN hb]
 ·simp only [slices_IndexFunc_string_l0, slices_IndexFunc_string_l0_b, h]
  rfl
theorem sameSet_eq (a b : List (List UInt8)) (k : Bool → Option R) (hN : big ≤ N) (hs : a.length < big) (hb : b.length < big) : sound_sameSet N a b k = k (sameSetB a b) := by
 unfold sound_sameSet
 simp only [contF_eq _ _ _ hN hs hb, ifB_and, Option.bind_some]
 rfl
theorem eqS_eq (a b : List (List (List UInt8))) (k : Bool → Option R) (hN : big ≤ N) (ha : RowsOk a) (hb : RowsOk b) : slices_EqualFunc_s_string N a b k = k (setsB a b) := by
 have hbig : big = 1000000000 := rfl
 have hB : B = 16386 := rfl
 unfold slices_EqualFunc_s_string setsB
 by_cases h : a.length = b.length
 ·have h' : ((((a.length : Nat) : Int) != ((b.length : Nat) : Int))) = false := by simp [h]
  simp only [h', Bool.false_eq_true, if_false]
  rw [decide_eq_true h, Bool.true_and]
  have h1 := ha.1
  refine zips a b (fun p => sameSetB p.1 p.2) k (by omega) h (fun n i => slices_EqualFunc_s_string_l0 N b a ((a.length : Nat) : Int) (k true) (fun y => k y) n i) (fun n i e h0 h1 h2 h3 h4 h5 => ?_) (fun n i h => ?_) N (by omega)
  ·simp only [slices_EqualFunc_s_string_l0, slices_EqualFunc_s_string_l0_b, h2, h3, h4, if_true, Option.bind_some]
   have e1 := ha.2 e.1 (List.of_mem_zip h5).1
   have e2 := hb.2 e.2 (List.of_mem_zip h5).2
   rw [sameSet_eq _ _ _ hN (by omega) (by omega)]
  ·simp only [slices_EqualFunc_s_string_l0, slices_EqualFunc_s_string_l0_b, h]
   rfl
 ·have h' : ((((a.length : Nat) : Int) != ((b.length : Nat) : Int))) = true := by simp; omega
  simp only [h', if_true]
  rw [decide_eq_false h, Bool.false_and]
theorem eqR_eq (a b : List (List UInt8)) (k : Bool → Option R) (hN : big ≤ N) (ha : a.length < big) : slices_Equal_string N a b k = k (rowB a b) := by
 have hbig : big = 1000000000 := rfl
 unfold slices_Equal_string rowB
 by_cases h : a.length = b.length
 ·have h' : ((((a.length : Nat) : Int) != ((b.length : Nat) : Int))) = false := by simp [h]
  simp only [h', Bool.false_eq_true, if_false]
  rw [decide_eq_true h, Bool.true_and]
  refine zips a b (fun p => p.1 == p.2) k (by omega) h (fun n i => slices_Equal_string_l0 N a b ((a.length : Nat) : Int) (k true) (fun y => k y) n i) (fun n i e h0 h1 h2 h3 h4 h5 => ?_) (fun n i h => ?_) N (by omega)
  ·simp only [slices_Equal_string_l0, slices_Equal_string_l0_b, h2, h3, h4, if_true, Option.bind_some]
  ·simp only [slices_Equal_string_l0, slices_Equal_string_l0_b, h]
   rfl
 ·have h' : ((((a.length : Nat) : Int) != ((b.length : Nat) : Int))) = true := by simp; omega
  simp only [h', if_true]
  rw [decide_eq_false h, Bool.false_and]
theorem eqM_eq (a b : List (List (List UInt8))) (k : Bool → Option R) (hN : big ≤ N) (ha : RowsOk a) : slices_EqualFunc_s_string_2 N a b k = k (rowsB a b) := by
 have hbig : big = 1000000000 := rfl
 have hB : B = 16386 := rfl
 unfold slices_EqualFunc_s_string_2 rowsB
 by_cases h : a.length = b.length
 ·have h' : ((((a.length : Nat) : Int) != ((b.length : Nat) : Int))) = false := by simp [h]
  simp only [h', Bool.false_eq_true, if_false]
  rw [decide_eq_true h, Bool.true_and]
  have h1 := ha.1
  refine zips a b (fun p => rowB p.1 p.2) k (by omega) h (fun n i => slices_EqualFunc_s_string_2_l0 N b a ((a.length : Nat) : Int) (k true) (fun y => k y) n i) (fun n i e h0 h1 h2 h3 h4 h5 => ?_) (fun n i h => ?_) N (by omega)
  ·simp only [slices_EqualFunc_s_string_2_l0, slices_EqualFunc_s_string_2_l0_b, h2, h3, h4, if_true, Option.bind_some]
   have e1 := ha.2 e.1 (List.of_mem_zip h5).1
   rw [eqR_eq _ _ _ hN (by omega)]
  ·simp only [slices_EqualFunc_s_string_2_l0, slices_EqualFunc_s_string_2_l0_b, h]
   rfl
 ·have h' : ((((a.length : Nat) : Int) != ((b.length : Nat) : Int))) = true := by simp; omega
  simp only [h', if_true]
  rw [decide_eq_false h, Bool.false_and]
theorem contCell_eq (s : List Cell) (c : Cell) (k : Bool → Option R) (hN : big ≤ N) (hs : s.length < big) (hc : CellOk c) (hcs : ∀ y ∈ s, CellOk y) : slices_ContainsFunc_Cell N s c.Rank c.Sets c.Msgs c.At k = k (s.any fun y => alikeB c y) := by
 unfold slices_ContainsFunc_Cell slices_IndexFunc_Cell
 have := search (fun y => alikeB c y) (fun r1 => k (decide (r1 ≥ 0))) hs (fun n i => slices_IndexFunc_Cell_l0 N s ((s.length : Nat) : Int) c.Rank c.Sets c.Msgs c.At (k (decide (((-1 : Int)) ≥ 0))) (fun y => k (decide (y ≥ 0))) n i) (fun n i e h0 h1 h2 h3 h4 => ?_) (fun n i h => ?_) N (by omega)
 ·rw [← idx_any]; exact this
 ·have he := hcs e (List.mem_of_getElem? h4)
  simp only [slices_IndexFunc_Cell_l0, slices_IndexFunc_Cell_l0_b, h2, h3, if_true, Option.bind_some]
  unfold sound_checker_cert_2 sound_alike
  rw [eqS_eq _ _ _ hN hc.1 he.1]
  simp only [eqM_eq _ _ _ hN hc.2, ifB_and, Option.bind_some]
  rfl
 ·simp only [slices_IndexFunc_Cell_l0, slices_IndexFunc_Cell_l0_b, h]
  rfl
theorem chOf_ok {Cs : List Chart} {Is : List Inst} {P : Chart → Prop} (h0 : P c0) (h : ∀ c ∈ Cs, P c) (n : List UInt8) : P ((chOf Cs Is n).getD c0) := by
 cases hq : chOf Cs Is n with
 | none => exact h0
 | some c =>
  unfold chOf at hq
  obtain ⟨i, _, h2⟩ := Option.bind_eq_some_iff.1 hq
  exact h c (List.mem_of_find?_eq_some h2)
theorem c0_ok : ChOk' c0 := by
 refine ⟨⟨?_, ?_, ?_⟩, ?_⟩ <;> simp [c0, szSs]
theorem fits_eq (x : Cert) (c : Cell) (A : Int) (Cs : List Chart) (Is : List Inst) (Hs : List Chan) (Es : List Cert) (C At : Int) (k : Bool → Option R) (hN : big ≤ N) (hc : Cs.length < big) (hi : Is.length < big) (hh : Hs.length < big) (hcs : ∀ c ∈ Cs, ChOk' c) (hcell : CellOk c) :
  sound_checker_fits N x.Name x.Inst x.Req x.Resp x.Insts x.Chans x.Cells x.At c.Rank c.Sets c.Msgs c.At A Cs Is Hs Es C At k = k (fitsB Cs Is Hs x c) := by
 have hbig : big = 1000000000 := rfl
 have hB : B = 16386 := rfl
 unfold sound_checker_fits fitsB
 simp only [ifB_or, Option.bind_some]
 by_cases h1 : c.Sets.length = x.Insts.length
 ·by_cases h2 : c.Msgs.length = x.Chans.length
  ·have e1 : (((((c.Sets.length : Nat) : Int) != ((x.Insts.length : Nat) : Int))) || ((((c.Msgs.length : Nat) : Int) != ((x.Chans.length : Nat) : Int)))) = false := by simp [h1, h2]
   simp only [e1, Bool.false_eq_true, if_false]
   rw [decide_eq_true h1, decide_eq_true h2, Bool.true_and, Bool.true_and]
   have l1 := hcell.1.1; have l2 := hcell.2.1
   have hm : ∀ kk : Bool → Option R, sound_checker_fits_l2 N c.Msgs ((c.Msgs.length : Nat) : Int) A Cs Is Hs Es C At x.Name x.Inst x.Req x.Resp x.Insts x.Chans x.Cells x.At (kk true) (fun y => kk y) N 0 = kk (msgsOk Hs x c) := by
    intro kk
    refine zips c.Msgs x.Chans (fun p => match Hs.find? fun e => e.Name == p.2 with
 | some h => decide (((p.1.length : Nat) : Int) ≤ h.Cap)
 | none => false) kk (by omega) h2 (fun n i => sound_checker_fits_l2 N c.Msgs ((c.Msgs.length : Nat) : Int) A Cs Is Hs Es C At x.Name x.Inst x.Req x.Resp x.Insts x.Chans x.Cells x.At (kk true) (fun y => kk y) n i) (fun n i e h0 h1 h2 h3 h4 h5 => ?_) (fun n i h => ?_) N (by omega)
    ·simp only [sound_checker_fits_l2, sound_checker_fits_l2_b, h2, h3, h4, if_true, Option.bind_some]
     unfold sound_find_Chan
     rw [ifChan_eq _ _ _ hN hh]
     by_cases hq : idx (fun y => y.Name == e.2) Hs < 0
     ·simp only [hq, decide_true, find_none hq, ifB_or, Bool.true_or, Option.bind_some]
      simp [ifB]
     ·obtain ⟨y, y1, y2⟩ := find_at hq
      simp only [hq, decide_false, y1, y2, ifB_or, Bool.false_or, Option.bind_some]
      congr 1
      simp
    ·simp only [sound_checker_fits_l2, sound_checker_fits_l2_b, h]
     rfl
   have hs := zips c.Sets x.Insts (fun p => (decide (((p.1.length : Nat) : Int) > 0) && !leavesB ((chOf Cs Is p.2).getD c0).States p.1) == false) (fun b => if b = true then sound_checker_fits_l2 N c.Msgs ((c.Msgs.length : Nat) : Int) A Cs Is Hs Es C At x.Name x.Inst x.Req x.Resp x.Insts x.Chans x.Cells x.At (k true) (fun y => k y) N 0 else k false) (by omega) h1 (fun n i => sound_checker_fits_l0 N c.Sets ((c.Sets.length : Nat) : Int) A Cs Is Hs Es C At x.Name x.Inst x.Req x.Resp x.Insts x.Chans x.Cells x.At c.Rank c.Sets c.Msgs c.At (sound_checker_fits_l2 N c.Msgs ((c.Msgs.length : Nat) : Int) A Cs Is Hs Es C At x.Name x.Inst x.Req x.Resp x.Insts x.Chans x.Cells x.At (k true) (fun y => k y) N 0) (fun y => k y) n i) (fun n i e h0 h1 h2 h3 h4 h5 => ?_) (fun n i h => ?_) N (by omega)
   ·refine Eq.trans hs ?_
    unfold setsOk
    cases hz : (c.Sets.zip x.Insts).all (fun p => (decide (((p.1.length : Nat) : Int) > 0) && !leavesB ((chOf Cs Is p.2).getD c0).States p.1) == false) with
    | true => simp only [if_true, Bool.true_and]; exact hm k
    | false => simp
   ·have e1 := hcell.1.2 e.1 (List.of_mem_zip h5).1
    have hst : szSs ((chOf Cs Is e.2).getD c0).States < 20000 := (chOf_ok c0_ok hcs e.2).2
    simp only [sound_checker_fits_l0, sound_checker_fits_l0_b, h2, h3, h4, if_true, Option.bind_some]
    simp only [chartOf_eq _ _ _ _ _ _ _ _ _ hN hc hi, leaves_eq e.1 hN (by omega) _ _ hst, ifB_and, Option.bind_some]
    cases (decide (((e.1.length : Nat) : Int) > 0) && !leavesB ((chOf Cs Is e.2).getD c0).States e.1) <;> rfl
   ·simp only [sound_checker_fits_l0, sound_checker_fits_l0_b, h]
    rfl
  ·have e1 : (((((c.Sets.length : Nat) : Int) != ((x.Insts.length : Nat) : Int))) || ((((c.Msgs.length : Nat) : Int) != ((x.Chans.length : Nat) : Int)))) = true := by
    simp; omega
   simp only [e1, if_true]
   rw [decide_eq_false h2]; simp
 ·have e1 : (((((c.Sets.length : Nat) : Int) != ((x.Insts.length : Nat) : Int))) || ((((c.Msgs.length : Nat) : Int) != ((x.Chans.length : Nat) : Int)))) = true := by
   simp; omega
  simp only [e1, if_true]
  rw [decide_eq_false h1]; simp
end
def memG (Cs : List Chart) (Is : List Inst) (a : Int) (pre : List (List UInt8)) (n : List UInt8) : Flt := orF (chk (chOf Cs Is n).isSome 7 a) (orF (chk (!pre.any fun e => n == e) 8 a) (chk (!(flL ((chOf Cs Is n).getD c0).States).any isH) 17 a))
def endG (Cs : List Chart) (Is : List Inst) (x : Cert) : Flt := chk ((x.Insts.any fun e => x.Inst == e) && (flL ((chOf Cs Is x.Inst).getD c0).States).any (fun e => e.Name == x.Req) && (flL ((chOf Cs Is x.Inst).getD c0).States).any (fun e => e.Name == x.Resp)) 7 x.At
def mchG (Hs : List Chan) (x : Cert) (pre : List (List UInt8)) (n : List UInt8) : Flt := orF (chk (Hs.any fun e => e.Name == n) 7 x.At) (orF (chk (!pre.any fun e => n == e) 8 x.At) (match Hs.find? fun e => e.Name == n with
 | some h => chk ((x.Insts.any fun e => h.From == e) && x.Insts.any fun e => h.To == e) 17 x.At
 | none => (0, 0)))
def cellG (Cs : List Chart) (Is : List Inst) (Hs : List Chan) (x : Cert) (pre : List Cell) (c : Cell) : Flt := orF (chk (decide (c.Rank ≥ 0) && decide (c.Rank ≤ 64)) 16 c.At) (orF (chk (fitsB Cs Is Hs x c) 18 c.At) (chk (!pre.any fun y => alikeB c y) 8 c.At))
def certF (Cs : List Chart) (Is : List Inst) (Hs : List Chan) (x : Cert) : Flt := orF (gP (memG Cs Is x.At) [] x.Insts) (orF (endG Cs Is x) (orF (chk (!(x.Req == x.Resp)) 17 x.At) (orF (gP (mchG Hs x) [] x.Chans) (gP (cellG Cs Is Hs x) [] x.Cells))))
section
variable {R : Type} {N : Nat}
theorem cert_eq (x : Cert) (A : Int) (Cs : List Chart) (Is : List Inst) (Hs : List Chan) (Es : List Cert) (C At : Int) (k : Int → Int → Option R) (hN : big ≤ N) (hc : Cs.length < big) (hi : Is.length < big) (hh : Hs.length < big) (hcs : ∀ c ∈ Cs, ChOk' c) (hx : CertOk x) :
  sound_checker_cert N x.Name x.Inst x.Req x.Resp x.Insts x.Chans x.Cells x.At A Cs Is Hs Es C At k = kf k (orF (C, At) (certF Cs Is Hs x)) := by
 have hbig : big = 1000000000 := rfl
 have hB : B = 16386 := rfl
 obtain ⟨x1, x2, x3, x4⟩ := hx
 have hst : ∀ n, szSs ((chOf Cs Is n).getD c0).States < 20000 := fun n => (chOf_ok c0_ok hcs n).2
 have hfl : ∀ n, (flL ((chOf Cs Is n).getD c0).States).length < big := fun n => by
  obtain ⟨_, h, _⟩ := flL_sz ((chOf Cs Is n).getD c0).States
  have := hst n; omega
 -- cells
 have cells : ∀ f : Flt, sound_checker_cert_l4 N x.Cells ((x.Cells.length : Nat) : Int) A Cs Is Hs Es x.Name x.Inst x.Req x.Resp x.Insts x.Chans x.Cells x.At (fun y z => k y z) N 0 f.1 f.2 = kf k (orF f (gP (cellG Cs Is Hs x) [] x.Cells)) := by
  intro f
  have := folds (fun pre c a => orF a (cellG Cs Is Hs x pre c)) (kf k) (l := x.Cells) (by omega) (fun n i (a : Flt) => sound_checker_cert_l4 N x.Cells ((x.Cells.length : Nat) : Int) A Cs Is Hs Es x.Name x.Inst x.Req x.Resp x.Insts x.Chans x.Cells x.At (fun y z => k y z) n i a.1 a.2) (fun n pre c rest a h h1 h2 => ?_) (fun n a => ?_) x.Cells [] f N rfl (by omega)
  ·rw [foldP_orF] at this
   exact this
  ·have hp : pre.length ≤ x.Cells.length := by rw [h]; simp
   have hcm : c ∈ x.Cells := by rw [h]; simp
   simp only [sound_checker_cert_l4, sound_checker_cert_l4_b, h1, h2, if_true, Option.bind_some]
   rw [within_eq, want_eq _ _ _ _ _ _ _ _ _ _ (by decide), kf_eq, fits_eq x c A Cs Is Hs Es _ _ _ hN hc hi hh hcs (x4 c hcm), want_eq _ _ _ _ _ _ _ _ _ _ (by decide), kf_eq, if_pos (g01 hp), take_pre h, contCell_eq _ _ _ hN (by omega) (x4 c hcm) (fun y hy => x4 y (by rw [h]; exact List.mem_append_left _ hy)), want_eq _ _ _ _ _ _ _ _ _ _ (by decide), kf_eq]
   unfold cellG
   simp only [Prod.eta, orF_assoc]
  ·simp only [sound_checker_cert_l4, sound_checker_cert_l4_b]
   simp [kf]
 have chans : ∀ f : Flt, sound_checker_cert_l2 N x.Chans ((x.Chans.length : Nat) : Int) A Cs Is Hs Es x.Name x.Inst x.Req x.Resp x.Insts x.Chans x.Cells x.At (fun (y121 : Int) (y122 : Int) =>
   sound_checker_cert_c23 N A Cs Is Hs Es y121 y122 x.Name x.Inst x.Req x.Resp x.Insts x.Chans x.Cells x.At (k y121 y122) (fun y z => k y z)) N 0 f.1 f.2 = kf k (orF (orF f (gP (mchG Hs x) [] x.Chans)) (gP (cellG Cs Is Hs x) [] x.Cells)) := by
  intro f
  have := folds (fun pre c a => orF a (mchG Hs x pre c)) (fun a : Flt => kf k (orF a (gP (cellG Cs Is Hs x) [] x.Cells))) (l := x.Chans) (by omega) (fun n i (a : Flt) => sound_checker_cert_l2 N x.Chans ((x.Chans.length : Nat) : Int) A Cs Is Hs Es x.Name x.Inst x.Req x.Resp x.Insts x.Chans x.Cells x.At (fun (y121 : Int) (y122 : Int) =>
   sound_checker_cert_c23 N A Cs Is Hs Es y121 y122 x.Name x.Inst x.Req x.Resp x.Insts x.Chans x.Cells x.At (k y121 y122) (fun y z => k y z)) n i a.1 a.2) (fun n pre c rest a h h1 h2 => ?_) (fun n a => ?_) x.Chans [] f N rfl (by omega)
  ·rw [foldP_orF] at this
   exact this
  ·have hp : pre.length ≤ x.Chans.length := by rw [h]; simp
   simp only [sound_checker_cert_l2, sound_checker_cert_l2_b, h1, h2, if_true, Option.bind_some]
   unfold sound_find_Chan
   rw [ifChan_eq _ _ _ hN hh]
   dsimp only
   rw [want_eq _ _ _ _ _ _ _ _ _ _ (by decide), kf_eq, if_pos (g01 hp), take_pre h, conts_eq _ _ _ hN (by omega), want_eq _ _ _ _ _ _ _ _ _ _ (by decide), kf_eq]
   unfold mchG
   by_cases hq : idx (fun y => y.Name == c) Hs < 0
   ·have hq' : ¬ idx (fun y => y.Name == c) Hs ≥ 0 := by omega
    simp only [idx_any, find_none hq, orF_zero, Prod.eta, orF_assoc]
    have ha : (Hs.any fun y => y.Name == c) = false := by rw [← idx_any]; simp [hq']
    rw [ha]
    simp
   ·have hq' : idx (fun y => y.Name == c) Hs ≥ 0 := by omega
    obtain ⟨y, y1, y2⟩ := find_at hq
    have ha : (Hs.any fun y => y.Name == c) = true := by rw [← idx_any]; simp [hq']
    simp only [idx_any, ha, y1, y2, if_true, Option.bind_some]
    rw [conts_eq _ _ _ hN (by omega)]
    simp only [conts_eq _ _ _ hN (show x.Insts.length < big by omega), ifB_and, Option.bind_some]
    rw [want_eq _ _ _ _ _ _ _ _ _ _ (by decide), kf_eq]
    simp only [Prod.eta, orF_assoc]
  ·simp only [sound_checker_cert_l2, sound_checker_cert_l2_b]
   simp only [Int.lt_irrefl, decide_false, Bool.false_eq_true, if_false]
   unfold sound_checker_cert_c23
   by_cases hz : a.1 = 0
   ·have : (a.1 != 0) = false := by simp [hz]
    simp only [this, Bool.false_eq_true, if_false]
    exact cells a
   ·have : (a.1 != 0) = true := by simp [hz]
    simp only [this, if_true]
    rw [orF_ne _ hz]; rfl
 have mems := folds (fun pre n a => orF a (memG Cs Is x.At pre n)) (fun a : Flt => kf k (orF a (orF (endG Cs Is x) (orF (chk (!(x.Req == x.Resp)) 17 x.At) (orF (gP (mchG Hs x) [] x.Chans) (gP (cellG Cs Is Hs x) [] x.Cells)))))) (l := x.Insts) (by omega) (fun n i (a : Flt) => sound_checker_cert_l0 N x.Insts ((x.Insts.length : Nat) : Int) A Cs Is Hs Es x.Name x.Inst x.Req x.Resp x.Insts x.Chans x.Cells x.At (fun (y38 : Int) (y39 : Int) =>
 sound_checker_cert_c9 N A Cs Is Hs Es y38 y39 x.Name x.Inst x.Req x.Resp x.Insts x.Chans x.Cells x.At (fun (y174 : Int) (y175 : Int) =>
  k y174 y175)
   (fun (y176 : Int) (y177 : Int) =>
  k y176 y177)) n i a.1 a.2) (fun n pre c rest a h h1 h2 => ?_) (fun n a => ?_) x.Insts [] (C, At) N rfl (by omega)
 ·unfold sound_checker_cert
  refine Eq.trans mems ?_
  rw [foldP_orF]
  unfold certF
  simp only [orF_assoc]
 ·have hp : pre.length ≤ x.Insts.length := by rw [h]; simp
  simp only [sound_checker_cert_l0, sound_checker_cert_l0_b, h1, h2, if_true, Option.bind_some]
  simp only [chartOf_eq _ _ _ _ _ _ _ _ _ hN hc hi]
  rw [want_eq _ _ _ _ _ _ _ _ _ _ (by decide), kf_eq, if_pos (g01 hp), take_pre h, conts_eq _ _ _ hN (by omega), want_eq _ _ _ _ _ _ _ _ _ _ (by decide), kf_eq, flat_eq hN _ _ (hst c), contH_eq _ _ hN (hfl c), want_eq _ _ _ _ _ _ _ _ _ _ (by decide), kf_eq]
  unfold memG
  simp only [Prod.eta, orF_assoc]
 ·simp only [sound_checker_cert_l0, sound_checker_cert_l0_b]
  simp only [Int.lt_irrefl, decide_false, Bool.false_eq_true, if_false]
  unfold sound_checker_cert_c9
  simp only [chartOf_eq _ _ _ _ _ _ _ _ _ hN hc hi]
  rw [flat_eq hN _ _ (hst x.Inst), conts_eq _ _ _ hN (by omega)]
  unfold sound_checker_cert_1 sound_find_State_3
  simp only [ifState5_eq _ _ _ hN (hfl x.Inst), idx_any, ifB_and, Option.bind_some]
  rw [want_eq _ _ _ _ _ _ _ _ _ _ (by decide), kf_eq]
  unfold sound_checker_cert_c13
  rw [want_eq _ _ _ _ _ _ _ _ _ _ (by decide), kf_eq]
  refine Eq.trans (chans _) ?_
  unfold endG
  simp only [Prod.eta, orF_assoc]
end
def chartG (pre : List Chart) (c : Chart) : Flt := orF (chk (!pre.any fun e => e.Name == c.Name) 8 c.At) (chF c)
def certG (Cs : List Chart) (Is : List Inst) (Hs : List Chan) (pre : List Cert) (x : Cert) : Flt := orF (chk (!pre.any fun e => e.Name == x.Name) 8 x.At) (certF Cs Is Hs x)
def sysF (s : System) : Flt := orF (chk (decide (s.Age ≥ 1) && decide (s.Age ≤ 65536)) 16 0) (orF (chk (decide (((s.Insts.length : Nat) : Int) > 0)) 7 0) (orF (gP chartG [] s.Charts) (orF (gP (instG s.Charts) [] s.Insts) (orF (gP (chanG s.Charts s.Insts) [] s.Chans) (orF (gP (fun _ x => joinG s.Charts s.Insts s.Chans x) [] s.Insts) (gP (certG s.Charts s.Insts s.Chans) [] s.Certs))))))
theorem ChOk.to {c : Chart} (h : ChOk c) : ChOk' c := ⟨⟨h.1, h.2.1, h.2.2.1⟩, by have := h.2.2.2.1; omega⟩
section
variable {R : Type} {N : Nat}
theorem Nf_nameG (m : Int) (pre : List Named) (e : Named) : Nf (nameG m pre e) := Nf_orF (Nf_chk _ _ (by decide)) (Nf_chk _ _ (by decide))
theorem Nf_exFs (P : Pr) : ∀ l, Nf (exFs P l) := by
 intro l
 exact Expr.rec_1 (motive_1 := fun e => Nf (exF P e)) (motive_2 := fun l => Nf (exFs P l)) (fun k n s es a ih => by simp only [exF]; exact Nf_orF (Nf_chk _ _ (by decide)) ih) (by simp only [exFs]; exact Nf_zero) (fun e r h1 h2 => by simp only [exFs]; exact Nf_orF h1 h2) l
theorem Nf_acFs (P : Pr) : ∀ l, Nf (acFs P l) := by
 intro l
 exact Act.rec_1 (motive_1 := fun e => Nf (acF P e)) (motive_2 := fun l => Nf (acFs P l)) (fun k n s es x t e a ih1 ih2 => by simp only [acF]; exact Nf_orF (Nf_chk _ _ (by decide)) (Nf_orF (Nf_chk _ _ (by decide)) (Nf_orF (Nf_exFs P _) (Nf_orF ih1 ih2)))) (by simp only [acFs]; exact Nf_zero) (fun e r h1 h2 => by simp only [acFs]; exact Nf_orF h1 h2) l
theorem Nf_trF (P : Pr) (n : Int) (t : Trans) : Nf (trF P n t) := Nf_orF (Nf_chk _ _ (by decide)) (Nf_orF (Nf_chk _ _ (by decide)) (Nf_orF (Nf_exFs P _) (Nf_acFs P _)))
theorem Nf_trsF (P : Pr) : ∀ (l : List Trans) (n : Int), Nf (trsF P n l)
 | [], _ => Nf_zero
 | t :: r, n => Nf_orF (Nf_trF P _ t) (Nf_trsF P r _)
theorem Nf_inF (P : Pr) : ∀ (l : List State) (n : Int), Nf (inF P n l)
 | [], _ => Nf_zero
 | s :: r, n => by
  unfold inF
  split
  ·exact Nf_inF P r n
  ·exact Nf_orF (Nf_acFs P _) (Nf_orF (Nf_acFs P _) (Nf_orF (Nf_trsF P _ _) (Nf_inF P r _)))
theorem Nf_chkS (top : Bool) (out : List State) (s : State) : Nf (chkS top out s) := Nf_orF (Nf_chk _ _ (by decide)) (Nf_orF (Nf_chk _ _ (by decide)) (Nf_chk _ _ (by decide)))
theorem Nf_trL : ∀ (l : List State) (top : Bool) (out : List State), Nf (trL top out l) := by
 intro l
 exact State.rec_1 (motive_1 := fun s => ∀ (top : Bool) (out : List State), Nf (tr1 top out s)) (motive_2 := fun l => ∀ (top : Bool) (out : List State), Nf (trL top out l)) (fun k n en ex tr kids a ih top out => by rw [tr1_eq]; exact Nf_orF (Nf_chkS _ _ _) (ih _ _)) (fun top out => by simp only [trL]; exact Nf_zero) (fun s r h1 h2 top out => by simp only [trL]; exact Nf_orF (h1 _ _) (h2 _ _)) l
theorem Nf_chHead (c : Chart) : Nf (chHead c) := Nf_orF (Nf_chk _ _ (by decide)) (Nf_orF (Nf_chk _ _ (by decide)) (Nf_orF (Nf_gP (Nf_nameG _) _ _) (Nf_orF (Nf_gP (Nf_nameG _) _ _) (Nf_gP (Nf_nameG _) _ _))))
theorem Nf_chF (c : Chart) : Nf (chF c) := Nf_orF (Nf_chHead c) (Nf_orF (Nf_trL _ _ _) (Nf_inF _ _ _))
theorem Nf_chartG (pre : List Chart) (c : Chart) : Nf (chartG pre c) := Nf_orF (Nf_chk _ _ (by decide)) (Nf_chF c)
theorem Nf_instG (Cs : List Chart) (pre : List Inst) (x : Inst) : Nf (instG Cs pre x) := Nf_orF (Nf_chk _ _ (by decide)) (Nf_orF (Nf_chk _ _ (by decide)) (Nf_chk _ _ (by decide)))
theorem Nf_chanG (Cs : List Chart) (Is : List Inst) (pre : List Chan) (x : Chan) : Nf (chanG Cs Is pre x) := Nf_orF (Nf_chk _ _ (by decide)) (Nf_orF (Nf_chk _ _ (by decide)) (Nf_orF (Nf_chk _ _ (by decide)) (Nf_chk _ _ (by decide))))
theorem Nf_joinG (Cs : List Chart) (Is : List Inst) (Hs : List Chan) (x : Inst) : Nf (joinG Cs Is Hs x) := Nf_gP (fun _ _ => Nf_chk _ _ (by decide)) _ _
theorem Nf_memG (Cs : List Chart) (Is : List Inst) (a : Int) (pre : List (List UInt8)) (n : List UInt8) : Nf (memG Cs Is a pre n) := Nf_orF (Nf_chk _ _ (by decide)) (Nf_orF (Nf_chk _ _ (by decide)) (Nf_chk _ _ (by decide)))
theorem Nf_endG (Cs : List Chart) (Is : List Inst) (x : Cert) : Nf (endG Cs Is x) := Nf_chk _ _ (by decide)
theorem Nf_mchG (Hs : List Chan) (x : Cert) (pre : List (List UInt8)) (n : List UInt8) : Nf (mchG Hs x pre n) := by
 refine Nf_orF (Nf_chk _ _ (by decide)) (Nf_orF (Nf_chk _ _ (by decide)) ?_)
 split
 ·exact Nf_chk _ _ (by decide)
 ·exact Nf_zero
theorem Nf_cellG (Cs : List Chart) (Is : List Inst) (Hs : List Chan) (x : Cert) (pre : List Cell) (c : Cell) : Nf (cellG Cs Is Hs x pre c) := Nf_orF (Nf_chk _ _ (by decide)) (Nf_orF (Nf_chk _ _ (by decide)) (Nf_chk _ _ (by decide)))
theorem Nf_certF (Cs : List Chart) (Is : List Inst) (Hs : List Chan) (x : Cert) : Nf (certF Cs Is Hs x) := Nf_orF (Nf_gP (Nf_memG _ _ _) _ _) (Nf_orF (Nf_endG _ _ _) (Nf_orF (Nf_chk _ _ (by decide)) (Nf_orF (Nf_gP (Nf_mchG _ _) _ _) (Nf_gP (Nf_cellG _ _ _ _) _ _))))
theorem Nf_certG (Cs : List Chart) (Is : List Inst) (Hs : List Chan) (pre : List Cert) (x : Cert) : Nf (certG Cs Is Hs pre x) := Nf_orF (Nf_chk _ _ (by decide)) (Nf_certF _ _ _ _)
theorem check_eq (s : System) (k : Int → Int → Option R) (hN : big ≤ N) (hs : SysOk s) : sound_Check N s.Age s.Charts s.Insts s.Chans s.Certs k = kf k (sysF s) := by
 have hbig : big = 1000000000 := rfl
 have hB : B = 16386 := rfl
 obtain ⟨A, Cs, Is, Hs, Es⟩ := s
 obtain ⟨b1, b2, b3, b4, b5, b6⟩ := hs
 simp only at b1 b2 b3 b4 b5 b6
 have hcs : ∀ c ∈ Cs, ChOk' c := fun c h => (b5 c h).to
 have hc : Cs.length < big := by omega
 have hi : Is.length < big := by omega
 have hh : Hs.length < big := by omega
 have he : Es.length < big := by omega
 unfold sound_Check
 simp only [ifB_and, Option.bind_some]
 rw [want_eq _ _ _ _ _ _ _ _ _ _ (by decide), kf_eq, want_eq _ _ _ _ _ _ _ _ _ _ (by decide), kf_eq]
 have l8 := folds (fun pre x a => orF a (certG Cs Is Hs pre x)) (kf k) he (fun n i (a : Flt) => sound_Check_l8 N Es ((Es.length : Nat) : Int) A Cs Is Hs Es 0 0 A Cs Is Hs Es (fun y z => k y z) n i a.1 a.2) (fun n pre x rest a h h1 h2 => ?_) (fun n a => ?_) Es []
 have l6 := folds (fun pre x a => orF a (joinG Cs Is Hs x)) (fun f : Flt => kf k (orF f (gP (certG Cs Is Hs) [] Es))) hi (fun n i (a : Flt) => sound_Check_l6 N Is ((Is.length : Nat) : Int) A Cs Is Hs Es 0 0 A Cs Is Hs Es (fun (y95 : Int) (y96 : Int) =>
 sound_Check_l8 N Es ((Es.length : Nat) : Int) A Cs Is Hs Es 0 0 A Cs Is Hs Es (fun y z => k y z) N 0 y95 y96) n i a.1 a.2) (fun n pre x rest a h h1 h2 => ?_) (fun n a => ?_) Is []
 have l4 := folds (fun pre x a => orF a (chanG Cs Is pre x)) (fun f : Flt => kf k (orF (orF f (gP (fun _ x => joinG Cs Is Hs x) [] Is)) (gP (certG Cs Is Hs) [] Es))) hh (fun n i (a : Flt) => sound_Check_l4 N Hs ((Hs.length : Nat) : Int) A Cs Is Hs Es 0 0 A Cs Is Hs Es (fun (y73 : Int) (y74 : Int) =>
 sound_Check_l6 N Is ((Is.length : Nat) : Int) A Cs Is Hs Es 0 0 A Cs Is Hs Es (fun (y95 : Int) (y96 : Int) =>
 sound_Check_l8 N Es ((Es.length : Nat) : Int) A Cs Is Hs Es 0 0 A Cs Is Hs Es (fun y z => k y z) N 0 y95 y96) N 0 y73 y74) n i a.1 a.2) (fun n pre x rest a h h1 h2 => ?_) (fun n a => ?_) Hs []
 have l2 := folds (fun pre x a => orF a (instG Cs pre x)) (fun f : Flt => kf k (orF (orF (orF f (gP (chanG Cs Is) [] Hs)) (gP (fun _ x => joinG Cs Is Hs x) [] Is)) (gP (certG Cs Is Hs) [] Es))) hi (fun n i (a : Flt) => sound_Check_l2 N Is ((Is.length : Nat) : Int) A Cs Is Hs Es 0 0 A Cs Is Hs Es (fun (y51 : Int) (y52 : Int) =>
 sound_Check_l4 N Hs ((Hs.length : Nat) : Int) A Cs Is Hs Es 0 0 A Cs Is Hs Es (fun (y73 : Int) (y74 : Int) =>
 sound_Check_l6 N Is ((Is.length : Nat) : Int) A Cs Is Hs Es 0 0 A Cs Is Hs Es (fun (y95 : Int) (y96 : Int) =>
 sound_Check_l8 N Es ((Es.length : Nat) : Int) A Cs Is Hs Es 0 0 A Cs Is Hs Es (fun y z => k y z) N 0 y95 y96) N 0 y73 y74) N 0 y51 y52) n i a.1 a.2) (fun n pre x rest a h h1 h2 => ?_) (fun n a => ?_) Is []
 have l0 := folds (fun pre x a => orF a (chartG pre x)) (fun f : Flt => kf k (orF (orF (orF (orF f (gP (instG Cs) [] Is)) (gP (chanG Cs Is) [] Hs)) (gP (fun _ x => joinG Cs Is Hs x) [] Is)) (gP (certG Cs Is Hs) [] Es))) hc (fun n i (a : Flt) => sound_Check_l0 N Cs ((Cs.length : Nat) : Int) A Cs Is Hs Es 0 0 A Cs Is Hs Es (fun (y29 : Int) (y30 : Int) =>
 sound_Check_l2 N Is ((Is.length : Nat) : Int) A Cs Is Hs Es 0 0 A Cs Is Hs Es (fun (y51 : Int) (y52 : Int) =>
 sound_Check_l4 N Hs ((Hs.length : Nat) : Int) A Cs Is Hs Es 0 0 A Cs Is Hs Es (fun (y73 : Int) (y74 : Int) =>
 sound_Check_l6 N Is ((Is.length : Nat) : Int) A Cs Is Hs Es 0 0 A Cs Is Hs Es (fun (y95 : Int) (y96 : Int) =>
 sound_Check_l8 N Es ((Es.length : Nat) : Int) A Cs Is Hs Es 0 0 A Cs Is Hs Es (fun y z => k y z) N 0 y95 y96) N 0 y73 y74) N 0 y51 y52) N 0 y29 y30) n i a.1 a.2) (fun n pre x rest a h h1 h2 => ?_) (fun n a => ?_) Cs []
 ·have := l0 (orF (orF (0, 0) (chk (decide (A ≥ 1) && decide (A ≤ 65536)) 16 0)) (chk (decide (((Is.length : Nat) : Int) > 0)) 7 0)) N rfl (by omega)
  rw [foldP_orF] at this
  refine Eq.trans this ?_
  unfold sysF
  simp only [orF_assoc]
  rw [zero_orF]
  exact Nf_orF (Nf_chk _ _ (by decide)) (Nf_orF (Nf_chk _ _ (by decide)) (Nf_orF (Nf_gP Nf_chartG _ _) (Nf_orF (Nf_gP (Nf_instG _) _ _) (Nf_orF (Nf_gP (Nf_chanG _ _) _ _) (Nf_orF (Nf_gP (fun _ x => Nf_joinG _ _ _ x) _ _) (Nf_gP (Nf_certG _ _ _) _ _))))))
 ·have hp : pre.length ≤ Cs.length := by rw [h]; simp
  have hm : x ∈ Cs := by rw [h]; simp
  simp only [sound_Check_l0, sound_Check_l0_b, h1, h2, if_true, Option.bind_some]
  rw [if_pos (g01 hp), take_pre h, twChart_eq _ _ _ hN (by omega), want_eq _ _ _ _ _ _ _ _ _ _ (by decide), kf_eq, chart_eq x A Cs Is Hs Es hN (hcs x hm), kf_eq]
  unfold chartG
  simp only [Prod.eta, orF_assoc]
 ·simp only [sound_Check_l0, sound_Check_l0_b]
  simp only [Int.lt_irrefl, decide_false, Bool.false_eq_true, if_false]
  have := l2 a N rfl (by omega)
  rw [foldP_orF] at this
  exact this
 ·simp only [sound_Check_l2, sound_Check_l2_b, h1, h2, if_true, Option.bind_some]
  rw [inst_eq pre x rest A Cs Is Hs Es _ _ _ hN hc hi h, kf_eq]
 ·simp only [sound_Check_l2, sound_Check_l2_b]
  simp only [Int.lt_irrefl, decide_false, Bool.false_eq_true, if_false]
  have := l4 a N rfl (by omega)
  rw [foldP_orF] at this
  exact this
 ·simp only [sound_Check_l4, sound_Check_l4_b, h1, h2, if_true, Option.bind_some]
  rw [channel_eq pre x rest A Cs Is Hs Es _ _ _ hN hc hi hh (fun c hc => (hcs c hc).1) h, kf_eq]
 ·simp only [sound_Check_l4, sound_Check_l4_b]
  simp only [Int.lt_irrefl, decide_false, Bool.false_eq_true, if_false]
  have := l6 a N rfl (by omega)
  rw [foldP_orF (fun _ x => joinG Cs Is Hs x)] at this
  exact this
 ·simp only [sound_Check_l6, sound_Check_l6_b, h1, h2, if_true, Option.bind_some]
  rw [joined_eq x A Cs Is Hs Es _ _ _ hN hc hi hh (fun c hc => (hcs c hc).1), kf_eq]
 ·simp only [sound_Check_l6, sound_Check_l6_b]
  simp only [Int.lt_irrefl, decide_false, Bool.false_eq_true, if_false]
  have := l8 a N rfl (by omega)
  rw [foldP_orF] at this
  exact this
 ·have hp : pre.length ≤ Es.length := by rw [h]; simp
  have hm : x ∈ Es := by rw [h]; simp
  simp only [sound_Check_l8, sound_Check_l8_b, h1, h2, if_true, Option.bind_some]
  rw [if_pos (g01 hp), take_pre h, twCert_eq _ _ _ hN (by omega), want_eq _ _ _ _ _ _ _ _ _ _ (by decide), kf_eq, cert_eq x A Cs Is Hs Es _ _ _ hN hc hi hh hcs (b6 x hm), kf_eq]
  unfold certG
  simp only [Prod.eta, orF_assoc]
 ·simp only [sound_Check_l8, sound_Check_l8_b]
  simp [kf]
end
end So
