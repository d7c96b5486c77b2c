/- Reading a certificate: what the reader's small functions answer where the tokens are known. -/
import Derived.Test.YtcllbmdpckfnhaaGreatPL
import Derived.Test.YtcllbmdpckfnhaaGreatPE
import Derived.Test.YtcllbmdpckfnhaaGreatT24
set_option maxRecDepth 1000000
set_option linter.unusedVariables false
set_option linter.unusedSimpArgs false
namespace So
open Go TE Go.Proofs
abbrev Tk := Int × List UInt8 × Int
def tk (t : Token) : Tk := (t.Kind, t.Text, t.N)
def Sub (L : List Token) (p : Int) (l : List Tk) : Prop := 0 ≤ p ∧ p + l.length ≤ L.length ∧ (L.length : Int) ≤ 16386 ∧ ∀ (j : Nat) x, l[j]? = some x → (L[p.toNat + j]?).map tk = some x
theorem Sub.hd {L : List Token} {p : Int} {a : Tk} {r : List Tk} (h : Sub L p (a :: r)) : ∃ t, at? L p = some t ∧ tk t = a ∧ 0 ≤ p ∧ p < L.length ∧ p < 20000 := by
 obtain ⟨h0, h1, h2, h3⟩ := h
 have := h3 0 a rfl
 rw [Nat.add_zero] at this
 obtain ⟨t, ht, hk⟩ := Option.map_eq_some_iff.1 this
 simp only [List.length_cons] at h1
 exact ⟨t, bf h0 ht, hk, h0, by omega, by omega⟩
theorem Sub.tl {L : List Token} {p : Int} {a : Tk} {r : List Tk} (h : Sub L p (a :: r)) : Sub L (p + 1) r := by
 obtain ⟨h0, h1, h2, h3⟩ := h
 simp only [List.length_cons] at h1
 refine ⟨by omega, by omega, h2, fun j x hx => ?_⟩
 have := h3 (j + 1) x (by simpa using hx)
 rwa [show (p + 1).toNat + j = p.toNat + (j + 1) by omega]
def words : List (List UInt8) := [[115, 121, 115, 116, 101, 109], [97, 103, 101], [99, 104, 97, 114, 116], [115, 116, 101, 112, 115], [102, 117, 101, 108], [118, 97, 114], [112, 111, 114, 116], [116, 105, 109, 101, 114], [115, 116, 97, 116, 101], [112, 97, 114, 97, 108, 108, 101, 108], [104, 105, 115, 116, 111, 114, 121], [100, 101, 101, 112], [101, 110, 116, 114, 121], [101, 120, 105, 116], [111, 110], [97, 117, 116, 111], [114, 97, 105, 115, 101], [115, 101, 110, 100], [97, 114, 109], [99, 97, 110, 99, 101, 108], [105, 102], [101, 108, 115, 101], [108, 111, 111, 112], [105, 110], [105, 110, 115, 116], [113, 117, 97, 110, 116, 117, 109], [101, 120, 116], [112, 114, 105, 111], [99, 104, 97, 110], [99, 97, 112], [99, 101, 114, 116], [105, 110, 115, 116, 115], [99, 104, 97, 110, 115], [99, 101, 108, 108], [111, 102, 102]]
def isK (s : List UInt8) (a : Tk) : Bool := (a.1 == 3 || a.1 == 1) && a.2.1 == s
def DS (a : Tk) : Bool := a.1 == 1 && !words.any fun w => w == a.2.1
section
variable {R : Type} {N : Nat} {L : List Token} {p A : Int} {a : Tk} {r : List Tk}
theorem Ik (s : List UInt8) (k : Bool → Option R) (hN : big ≤ N) : nN N s k = k (words.any fun w => w == s) := by
 have hb : big = 1000000000 := rfl
 have hw : words.length = 35 := rfl
 unfold nN
 rw [← bj]
 refine search (l := words) (fun w => w == s) (fun j => k (decide (j ≥ 0))) (by omega) (fun n i => fc N s _ _ _ _ _ _ _ _ _ _ _ _ _ _ _ _ _ _ _ _ _ _ _ _ _ _ _ _ _ _ _ _ _ _ _ (k false) (fun y => k y) n i) (fun n i e h0 h1 h2 h3 h4 => ?_) (fun n i h => ?_) N (by omega)
 ·have hd : decide (i < 35) = true := by rw [hw] at h2; exact h2
  simp only [fc, jd, hd, if_true]
  rw [if_pos ⟨h0, by omega⟩]
  have h4' : words[0 + Int.toNat i * 1]? = some e := by rw [Nat.zero_add, Nat.mul_one]; exact h4
  change ((words[0 + Int.toNat i * 1]?).bind _) = _
  rw [h4', Option.bind_some]
  by_cases hn : (e == s) = true
  ·rw [if_pos hn, if_pos hn, decide_eq_true (by omega)]
  ·rw [if_neg hn, if_neg hn]
 ·have hd : decide (i < 35) = false := by rw [hw] at h; exact h
  simp only [fc, jd, hd]
  simp
theorem Ul (h : Sub L p (a :: r)) (s : List UInt8) (k : Bool → Option R) : mq N L p s k = k (isK s a) := by
 obtain ⟨t, h1, rfl, h2, h3, h4⟩ := h.hd
 unfold mq isK tk
 rw [decide_eq_true h3, h1]
 simp only [Option.bind_some, aZ, ax, Bool.true_and]
theorem cis (h : Sub L p (a :: r)) (s : List UInt8) (k : Bool → Option R) : bs N s L p 0 A k = k (isK s a) := by
 unfold bs
 rw [Ul h]
 simp [ifB]
theorem Um (h : Sub L p (a :: r)) {s : List UInt8} (ha : isK s a = true) (k : Int → Int → Int → Option R) : aj N s L p 0 A k = k (p + 1) 0 A := by
 obtain ⟨t, h1, h5, h2, h3, h4⟩ := h.hd
 unfold aj
 rw [Ul h, ha]
 simp only [ifB, gA]
 rw [wr _ (by omega) (by omega)]
 simp
theorem Gq (hN : big ≤ N) (h : Sub L p (a :: r)) (ha : DS a = true) (k : List UInt8 → Int → Int → Int → Option R) : aC N L p 0 A k = k a.2.1 (p + 1) 0 A := by
 obtain ⟨t, h1, rfl, h2, h3, h4⟩ := h.hd
 unfold DS tk at ha
 simp only [Bool.and_eq_true, beq_iff_eq, Bool.not_eq_true'] at ha
 unfold aC oh
 rw [decide_eq_true h3, h1]
 simp only [Option.bind_some]
 rw [Ik _ _ hN, ha.2]
 simp only [gO]
 rw [wr (p + 1) (by omega) (by omega), wr (p + 1 - 1) (by omega) (by omega), show p + 1 - 1 = p by omega, h1]
 simp [ifB, ha.1, tk]
theorem UL (h : Sub L p (a :: r)) (ha : (a.1 == 2) = true) (k : Int → Int → Int → Int → Option R) : aY N L p 0 A k = k a.2.2 (p + 1) 0 A := by
 obtain ⟨t, h1, rfl, h2, h3, h4⟩ := h.hd
 unfold tk at ha
 simp only [beq_iff_eq] at ha
 unfold aY
 rw [h1]
 simp only [fb]
 rw [wr (p + 1) (by omega) (by omega), wr (p + 1 - 1) (by omega) (by omega), show p + 1 - 1 = p by omega, h1]
 simp [ifB, ha, tk]
theorem SG {n m : Int} (h : n ≠ m) (k : Bool → Int → Int → Option R) : cC N n m L p 0 A k = k false 0 A := by
 unfold cC gB
 simp [ifB, h]
end
def vv (sep : List UInt8) : List Tk → Option (List Tk)
 | [] => none
 | a :: r => if isK sep a = true then (match r with
  | b :: r' => if DS b = true then vv sep r' else none
  | [] => none) else some (a :: r)
def recNames : List Tk → Option (List Tk)
 | a :: r => if DS a = true then vv [44] r else none
 | [] => none
def GY : List Tk → Option (List Tk)
 | a :: r => if isK [111, 102, 102] a = true then some r else if DS a = true then vv [43] r else none
 | [] => none
def DC : Nat → List Tk → Option (List Tk)
 | f + 1, a :: r => if isK [44] a = true then (GY r).bind (DC f) else some (a :: r)
 | _, _ => none
def GZ : List Tk → Option (List Tk)
 | a :: r => if isK [93] a = true then some (a :: r) else if DS a = true then GZ r else none
 | [] => none
def eat (s : List UInt8) : List Tk → Option (List Tk)
 | a :: r => if isK s a = true then some r else none
 | [] => none
def DD : Nat → List Tk → Option (List Tk)
 | f + 1, a :: r => if isK [91] a = true then (GZ r).bind fun r1 => (eat [93] r1).bind (DD f) else some (a :: r)
 | _, _ => none
section
variable {R : Type} {N : Nat} {L : List Token} {A : Int}
theorem QX {s : List UInt8} {l l' : List Tk} {p : Int} (h : eat s l = some l') (hs : Sub L p l) (k : Int → Int → Int → Option R) : aj N s L p 0 A k = k (p + 1) 0 A ∧ Sub L (p + 1) l' := by
 cases l with
 | nil => cases h
 | cons a r =>
  simp only [eat] at h
  split at h
  ·rename_i ha
   cases h
   exact ⟨Um hs ha k, hs.tl⟩
  ·cases h
theorem Un (hN : big ≤ N) : ∀ (n : Nat) (l l' : List Tk) (p : Int) (out : List (List UInt8)), vv [44] l = some l' → Sub L p l → l.length < n → out.length + l.length ≤ 40000 →
  ∃ out' q, (∀ kp0 : Int → Int → Int → List (List UInt8) → Option R, cM N L kp0 n p 0 A out = kp0 q 0 A out') ∧ Sub L q l' := by
 intro n
 induction n with
 | zero => intro l l' p out h1 h2 h3; omega
 | succ n ih =>
  intro l l' p out h1 h2 h3 h4
  cases l with
  | nil => cases h1
  | cons a r =>
   unfold vv at h1
   simp only [cM, gU, cis h2]
   obtain ⟨_, _, _, g0, _, g1⟩ := h2.hd
   split at h1
   ·rename_i ha
    split at h1
    ·rename_i b r'
     split at h1
     ·rename_i hb
      simp only [List.length_cons] at h3 h4
      obtain ⟨o, q, e, s⟩ := ih _ _ _ (out ++ [b.2.1]) h1 h2.tl.tl (by omega) (by simp; omega)
      refine ⟨o, q, fun kp0 => ?_, s⟩
      rw [if_pos ha, wr _ (by omega) (by omega), Gq hN h2.tl hb, if_pos (by simp [ak]; omega)]
      exact e kp0
     ·cases h1
    ·cases h1
   ·rename_i ha
    cases h1
    exact ⟨_, _, fun kp0 => by rw [if_neg ha], h2⟩
theorem SQ (hN : big ≤ N) : ∀ (n : Nat) (l l' : List Tk) (p : Int) (out : List (List UInt8)), vv [43] l = some l' → Sub L p l → l.length < n → out.length + l.length ≤ 40000 →
  ∃ out' q, (∀ kp0 : Int → Int → Int → List (List UInt8) → Option R, dL N L kp0 n p 0 A out = kp0 q 0 A out') ∧ Sub L q l' := by
 intro n
 induction n with
 | zero => intro l l' p out h1 h2 h3; omega
 | succ n ih =>
  intro l l' p out h1 h2 h3 h4
  cases l with
  | nil => cases h1
  | cons a r =>
   unfold vv at h1
   simp only [dL, iW, cis h2]
   obtain ⟨_, _, _, g0, _, g1⟩ := h2.hd
   split at h1
   ·rename_i ha
    split at h1
    ·rename_i b r'
     split at h1
     ·rename_i hb
      simp only [List.length_cons] at h3 h4
      obtain ⟨o, q, e, s⟩ := ih _ _ _ (out ++ [b.2.1]) h1 h2.tl.tl (by omega) (by simp; omega)
      refine ⟨o, q, fun kp0 => ?_, s⟩
      rw [if_pos ha, wr _ (by omega) (by omega), Gq hN h2.tl hb, if_pos (by simp [ak]; omega)]
      exact e kp0
     ·cases h1
    ·cases h1
   ·rename_i ha
    cases h1
    exact ⟨_, _, fun kp0 => by rw [if_neg ha], h2⟩
theorem Sub.len {l : List Tk} {p : Int} (h : Sub L p l) : l.length ≤ 16386 := by
 obtain ⟨h0, h1, h2, _⟩ := h
 omega
theorem Oo (hN : big ≤ N) {l l' : List Tk} {p : Int} (h : recNames l = some l') (hs : Sub L p l) : ∃ ns q, (∀ k : List (List UInt8) → Int → Int → Int → Option R, eJ N L p 0 A k = k ns q 0 A) ∧ Sub L q l' := by
 have hb : big = 1000000000 := rfl
 cases l with
 | nil => cases h
 | cons a r =>
  simp only [recNames] at h
  split at h
  ·rename_i ha
   have hl := hs.tl.len
   obtain ⟨out', q, e, hq⟩ := Un hN (A := A) N r l' (p + 1) [a.2.1] h hs.tl (by omega) (by simp; omega)
   refine ⟨out', q, fun k => ?_, hq⟩
   unfold eJ
   rw [Gq hN hs ha]
   exact e _
  ·cases h
theorem Uo (hN : big ≤ N) {l l' : List Tk} {p : Int} (h : GY l = some l') (hs : Sub L p l) : ∃ ns q, (∀ k : List (List UInt8) → Int → Int → Int → Option R, gQ N L p 0 A k = k ns q 0 A) ∧ Sub L q l' := by
 have hb : big = 1000000000 := rfl
 cases l with
 | nil => cases h
 | cons a r =>
  simp only [GY] at h
  unfold gQ
  obtain ⟨_, _, _, g0, _, g1⟩ := hs.hd
  split at h
  ·rename_i ha
   cases h
   exact ⟨_, _, fun k => by rw [cis hs, if_pos ha, wr _ (by omega) (by omega)], hs.tl⟩
  ·rename_i ha1
   split at h
   ·rename_i ha
    have hl := hs.tl.len
    obtain ⟨out', q, e, hq⟩ := SQ hN (A := A) N r l' (p + 1) [a.2.1] h hs.tl (by omega) (by simp; omega)
    refine ⟨out', q, fun k => ?_, hq⟩
    rw [cis hs, if_neg ha1, Gq hN hs ha]
    exact e _
   ·cases h
theorem Up (hN : big ≤ N) (x1 x2 x3 x4 : Int) : ∀ (f n : Nat) (l l' : List Tk) (p : Int) (out : List (List (List UInt8))), DC f l = some l' → Sub L p l → f ≤ n → out.length + f ≤ 40000 →
  ∃ out' q, (∀ kp0 : Int → Int → Int → List (List (List UInt8)) → Option R, dq N L x1 x2 x3 x4 kp0 n p 0 A out = kp0 q 0 A out') ∧ Sub L q l' := by
 intro f
 induction f with
 | zero => intro n l l' p out h1; cases l <;> cases h1
 | succ f ih =>
  intro n l l' p out h1 h2 h3 h4
  obtain ⟨n, rfl⟩ : ∃ m, n = m + 1 := ⟨n - 1, by omega⟩
  cases l with
  | nil => cases h1
  | cons a r =>
   simp only [DC] at h1
   simp only [dq, iw, cis h2]
   obtain ⟨_, _, _, g0, _, g1⟩ := h2.hd
   split at h1
   ·rename_i ha
    obtain ⟨r1, e1, e2⟩ := Option.bind_eq_some_iff.1 h1
    obtain ⟨ns, q, e, hq⟩ := Uo (R := R) hN (A := A) e1 h2.tl
    obtain ⟨o, q', e', s⟩ := ih n _ _ _ (out ++ [ns]) e2 hq (by omega) (by simp; omega)
    refine ⟨o, q', fun kp0 => ?_, s⟩
    rw [if_pos ha, wr _ (by omega) (by omega), e, if_pos (by simp [ak]; omega)]
    exact e' kp0
   ·rename_i ha
    cases h1
    exact ⟨_, _, fun kp0 => by rw [if_neg ha], h2⟩
theorem UM (hN : big ≤ N) (x1 x2 x3 x4 : Int) (o1 o2 : List (List (List UInt8))) : ∀ (n : Nat) (l l' : List Tk) (p : Int) (out : List (List UInt8)), GZ l = some l' → Sub L p l → l.length < n → out.length + l.length ≤ 40000 →
  ∃ out' q, (∀ kp0 : Int → Int → Int → List (List UInt8) → Option R, dr N L x1 x2 x3 x4 o1 o2 kp0 n p 0 A out = kp0 q 0 A out') ∧ Sub L q l' := by
 intro n
 induction n with
 | zero => intro l l' p out h1 h2 h3; omega
 | succ n ih =>
  intro l l' p out h1 h2 h3 h4
  cases l with
  | nil => cases h1
  | cons a r =>
   simp only [GZ] at h1
   simp only [dr, ix, cis h2]
   simp only [List.length_cons] at h3 h4
   split at h1
   ·rename_i ha
    cases h1
    exact ⟨_, _, fun kp0 => by rw [ha]; simp [ifB]; rfl, h2⟩
   ·rename_i ha
    have ha' : isK [93] a = false := by simpa using ha
    split at h1
    ·rename_i hb
     obtain ⟨out', q, e, hq⟩ := ih _ _ _ (out ++ [a.2.1]) h1 h2.tl (by omega) (by simp; omega)
     refine ⟨out', q, fun kp0 => ?_, hq⟩
     rw [ha', ← e kp0]
     simp only [ifB, Bool.not_false]
     simp only [BEq.rfl, if_true, Option.bind_some]
     rw [Gq hN h2 hb, if_pos (by simp [ak]; omega)]
    ·cases h1
theorem Ur (hN : big ≤ N) (x1 x2 x3 x4 : Int) (o1 : List (List (List UInt8))) : ∀ (f n : Nat) (l l' : List Tk) (p : Int) (out : List (List (List UInt8))), DD f l = some l' → Sub L p l → f ≤ n → out.length + f ≤ 40000 →
  ∃ out' q, (∀ kp0 : Int → Int → Int → List (List (List UInt8)) → Option R, dt N L x1 x2 x3 x4 o1 kp0 n p 0 A out = kp0 q 0 A out') ∧ Sub L q l' := by
 have hb : big = 1000000000 := rfl
 intro f
 induction f with
 | zero => intro n l l' p out h1; cases l <;> cases h1
 | succ f ih =>
  intro n l l' p out h1 h2 h3 h4
  obtain ⟨n, rfl⟩ : ∃ m, n = m + 1 := ⟨n - 1, by omega⟩
  cases l with
  | nil => cases h1
  | cons a r =>
   simp only [DD] at h1
   simp only [dt, iy, cis h2]
   obtain ⟨_, _, _, g0, _, g1⟩ := h2.hd
   split at h1
   ·rename_i ha
    obtain ⟨r1, e1, e2⟩ := Option.bind_eq_some_iff.1 h1
    obtain ⟨r2, e3, e4⟩ := Option.bind_eq_some_iff.1 e2
    have hl := h2.tl.len
    obtain ⟨ns, q, e, hq⟩ := UM (R := R) hN (A := A) x1 x2 x3 x4 o1 out N _ _ _ [] e1 h2.tl (by omega) (by simp; omega)
    have hq2 := (QX (R := R) (N := N) (A := A) e3 hq (fun _ _ _ => none)).2
    obtain ⟨o, q', e', s⟩ := ih n _ _ _ (out ++ [ns]) e4 hq2 (by omega) (by simp; omega)
    refine ⟨o, q', fun kp0 => ?_, s⟩
    rw [if_pos ha, wr _ (by omega) (by omega), e, (QX (N := N) (A := A) e3 hq _).1, if_pos (by simp [ak]; omega)]
    exact e' kp0
   ·rename_i ha
    cases h1
    exact ⟨_, _, fun kp0 => by rw [if_neg ha], h2⟩
end
def nm : List Tk → Option (List Tk)
 | a :: r => if DS a = true then some r else none
 | [] => none
def num : List Tk → Option (List Tk)
 | a :: r => if (a.1 == 2) = true then some r else none
 | [] => none
def Ha : List Tk → Option (List Tk)
 | _ :: l => (num l).bind fun l => (eat [123] l).bind fun l => (GY l).bind fun l => (DC 100 l).bind fun l => (eat [59] l).bind fun l => (DD 100 l).bind fun l => eat [125] l
 | [] => none
def Ar : Nat → List Tk → Option (List Tk)
 | f + 1, a :: r => if isK [99, 101, 108, 108] a = true then (Ha (a :: r)).bind (Ar f) else some (a :: r)
 | _, _ => none
def DE : List Tk → Option (List Tk)
 | _ :: l => (nm l).bind fun l => (eat [58] l).bind fun l => (nm l).bind fun l => (eat [46] l).bind fun l => (nm l).bind fun l => (eat [45, 62] l).bind fun l => (nm l).bind fun l => (eat [123] l).bind fun l => (eat [105, 110, 115, 116, 115] l).bind fun l => (recNames l).bind fun l => (eat [59] l).bind fun l => (eat [99, 104, 97, 110, 115] l).bind fun l => (recNames l).bind fun l => (eat [59] l).bind fun l => (Ar 60 l).bind fun l => eat [125] l
 | [] => none
def oc : Nat → List Tk → Option (List Tk)
 | f + 1, a :: r => if isK [99, 101, 114, 116] a = true then (DE (a :: r)).bind (oc f) else some (a :: r)
 | _, _ => none
theorem Oq {s : List UInt8} {l l' : List Tk} (h : eat s l = some l') : ∃ a, l = a :: l' ∧ isK s a = true := by
 cases l with
 | nil => cases h
 | cons a r =>
  simp only [eat] at h
  split at h
  ·rename_i ha; cases h; exact ⟨a, rfl, ha⟩
  ·cases h
section
variable {R : Type} {N : Nat} {L : List Token} {A : Int}
theorem Ot {a : Tk} {r : List Tk} {p : Int} (h : Sub L p (a :: r)) : ∃ x, ∀ k : Int → Option R, di N L p 0 A k = k x := by
 obtain ⟨t, h1, _⟩ := h.hd
 exact ⟨t.At, fun k => by unfold di; rw [h1]; rfl⟩
theorem xe {s : List UInt8} {l l' : List Tk} {p : Int} (h : eat s l = some l') (hs : Sub L p l) : (∀ k : Int → Int → Int → Option R, aj N s L p 0 A k = k (p + 1) 0 A) ∧ Sub L (p + 1) l' :=
 ⟨fun k => (QX h hs k).1, (QX (R := R) (N := N) (A := A) h hs (fun _ _ _ => none)).2⟩
theorem cnm (hN : big ≤ N) {l l' : List Tk} {p : Int} (h : nm l = some l') (hs : Sub L p l) : ∃ x, (∀ k : List UInt8 → Int → Int → Int → Option R, aC N L p 0 A k = k x (p + 1) 0 A) ∧ Sub L (p + 1) l' := by
 cases l with
 | nil => cases h
 | cons a r =>
  simp only [nm] at h
  split at h
  ·rename_i ha; cases h; exact ⟨_, Gq hN hs ha, hs.tl⟩
  ·cases h
theorem Us {l l' : List Tk} {p : Int} (h : num l = some l') (hs : Sub L p l) : ∃ x, (∀ k : Int → Int → Int → Int → Option R, aY N L p 0 A k = k x (p + 1) 0 A) ∧ Sub L (p + 1) l' := by
 cases l with
 | nil => cases h
 | cons a r =>
  simp only [num] at h
  split at h
  ·rename_i ha; cases h; exact ⟨_, UL hs ha, hs.tl⟩
  ·cases h
theorem Ut (hN : big ≤ N) {l l' : List Tk} {p : Int} (h : Ha l = some l') (hs : Sub L p l) :
  ∃ x1 x2 x3 x4 q, (∀ k : Int → List (List (List UInt8)) → List (List (List UInt8)) → Int → Int → Int → Int → Option R, ig N L p 0 A k = k x1 x2 x3 x4 q 0 A) ∧ Sub L q l' := by
 have hb : big = 1000000000 := rfl
 cases l with
 | nil => cases h
 | cons a r =>
  simp only [Ha, Option.bind_eq_some_iff] at h
  obtain ⟨l1, h1, l2, h2, l3, h3, l4, h4, l5, h5, l6, h6, h7⟩ := h
  obtain ⟨_, _, _, g0, _, g1⟩ := hs.hd
  obtain ⟨x4, e⟩ := Ot (R := R) (N := N) (A := A) hs
  obtain ⟨x1, e1, s1⟩ := Us (R := R) (N := N) (A := A) h1 hs.tl
  obtain ⟨e2, s2⟩ := xe (R := R) (N := N) (A := A) h2 s1
  obtain ⟨x2, q3, e3, s3⟩ := Uo (R := R) hN (A := A) h3 s2
  obtain ⟨x5, q4, e4, s4⟩ := Up (R := R) hN (A := A) 0 0 x1 x4 100 N _ _ _ [x2] h4 s3 (by omega) (by simp)
  obtain ⟨e5, s5⟩ := xe (R := R) (N := N) (A := A) h5 s4
  obtain ⟨x6, q6, e6, s6⟩ := Ur (R := R) hN (A := A) 0 0 x1 x4 x5 100 N _ _ _ [] h6 s5 (by omega) (by simp)
  obtain ⟨e7, s7⟩ := xe (R := R) (N := N) (A := A) h7 s6
  refine ⟨x1, x5, x6, x4, q6 + 1, fun k => ?_, s7⟩
  unfold ig
  rw [e, wr _ (by omega) (by omega), e1, e2, e3, if_pos (by simp [ak]), e4, e5, e6, e7]
theorem SR (hN : big ≤ N) (v1 v2 v3 v4 : List UInt8) (v5 : Int) (y1 y2 y3 y4 : List UInt8) (y5 y6 : List (List UInt8)) (y7 : Int) : ∀ (f n : Nat) (l l' : List Tk) (p : Int) (out : List Cell), Ar f l = some l' → Sub L p l → f ≤ n → out.length + f ≤ 64 →
  ∃ out' q, (∀ kp0 : Int → Int → Int → List Cell → Option R, du N L v1 v2 v3 v4 v5 y1 y2 y3 y4 y5 y6 y7 kp0 n p 0 A out = kp0 q 0 A out') ∧ Sub L q l' := by
 intro f
 induction f with
 | zero => intro n l l' p out h1; cases l <;> cases h1
 | succ f ih =>
  intro n l l' p out h1 h2 h3 h4
  obtain ⟨n, rfl⟩ : ∃ m, n = m + 1 := ⟨n - 1, by omega⟩
  cases l with
  | nil => cases h1
  | cons a r =>
   simp only [Ar] at h1
   simp only [du, iz, cis h2]
   split at h1
   ·rename_i ha
    obtain ⟨r1, e1, e2⟩ := Option.bind_eq_some_iff.1 h1
    obtain ⟨x1, x2, x3, x4, q, e, s⟩ := Ut (R := R) hN (A := A) e1 h2
    obtain ⟨o, q', e', s'⟩ := ih n _ _ _ (out ++ [⟨x1, x2, x3, x4⟩]) e2 s (by omega) (by simp; omega)
    refine ⟨o, q', fun kp0 => ?_, s'⟩
    rw [ha, if_pos (by rfl), SG (by omega), if_pos (by rfl), e, if_pos (by simp [ak]; omega)]
    exact e' kp0
   ·rename_i ha
    cases h1
    exact ⟨_, _, fun kp0 => by rw [show isK [99, 101, 108, 108] a = false by simpa using ha, if_neg (by simp)], h2⟩
theorem Uu (hN : big ≤ N) {l l' : List Tk} {p : Int} (h : DE l = some l') (hs : Sub L p l) :
  ∃ x1 x2 x3 x4 x5 x6 x7 x8 q, (∀ k : List UInt8 → List UInt8 → List UInt8 → List UInt8 → List (List UInt8) → List (List UInt8) → List Cell → Int → Int → Int → Int → Option R, ij N L p 0 A k = k x1 x2 x3 x4 x5 x6 x7 x8 q 0 A) ∧ Sub L q l' := by
 have hb : big = 1000000000 := rfl
 cases l with
 | nil => cases h
 | cons a r =>
  simp only [DE, Option.bind_eq_some_iff] at h
  obtain ⟨l1, h1, l2, h2, l3, h3, l4, h4, l5, h5, l6, h6, l7, h7, l8, h8, l9, h9, l10, h10, l11, h11, l12, h12, l13, h13, l14, h14, l15, h15, h16⟩ := h
  obtain ⟨_, _, _, g0, _, g1⟩ := hs.hd
  obtain ⟨x8, e⟩ := Ot (R := R) (N := N) (A := A) hs
  obtain ⟨x1, e1, s1⟩ := cnm (R := R) hN (A := A) h1 hs.tl
  obtain ⟨e2, s2⟩ := xe (R := R) (N := N) (A := A) h2 s1
  obtain ⟨x2, e3, s3⟩ := cnm (R := R) hN (A := A) h3 s2
  obtain ⟨e4, s4⟩ := xe (R := R) (N := N) (A := A) h4 s3
  obtain ⟨x3, e5, s5⟩ := cnm (R := R) hN (A := A) h5 s4
  obtain ⟨e6, s6⟩ := xe (R := R) (N := N) (A := A) h6 s5
  obtain ⟨x4, e7, s7⟩ := cnm (R := R) hN (A := A) h7 s6
  obtain ⟨e8, s8⟩ := xe (R := R) (N := N) (A := A) h8 s7
  obtain ⟨e9, s9⟩ := xe (R := R) (N := N) (A := A) h9 s8
  obtain ⟨x5, q10, e10, s10⟩ := Oo (R := R) hN (A := A) h10 s9
  obtain ⟨e11, s11⟩ := xe (R := R) (N := N) (A := A) h11 s10
  obtain ⟨b, rfl, hb12⟩ := Oq h12
  obtain ⟨_, _, _, g2, _, g3⟩ := s11.hd
  obtain ⟨x6, q13, e13, s13⟩ := Oo (R := R) hN (A := A) h13 s11.tl
  obtain ⟨e14, s14⟩ := xe (R := R) (N := N) (A := A) h14 s13
  obtain ⟨x7, q15, e15, s15⟩ := SR (R := R) hN (A := A) [] [] [] [] 0 x1 x2 x3 x4 x5 x6 x8 60 N _ _ _ [] h15 s14 (by omega) (by simp)
  obtain ⟨e16, s16⟩ := xe (R := R) (N := N) (A := A) h16 s15
  refine ⟨x1, x2, x3, x4, x5, x6, x7, x8, q15 + 1, fun k => ?_, s16⟩
  unfold ij
  rw [e, wr _ (by omega) (by omega), e1, e2, e3, e4]
  unfold jB
  rw [e5, e6, e7, e8, e9]
  unfold iX
  rw [e10, e11, cis s11, hb12, if_pos rfl, wr _ (by omega) (by omega), e13, e14]
  unfold ep
  rw [e15, e16]
theorem SS (hN : big ≤ N) (v1 v2 v3 v4 : Int) (y1 : List Chart) (y2 : List Inst) (y3 : List ai) : ∀ (f n : Nat) (l l' : List Tk) (p : Int) (out : List Cert), oc f l = some l' → Sub L p l → f ≤ n → out.length + f ≤ 4 →
  ∃ out' q, (∀ kp0 : Int → Int → Int → List Cert → Option R, jC N v1 v2 v3 L v4 y1 y2 y3 kp0 n p 0 A out = kp0 q 0 A out') ∧ Sub L q l' := by
 intro f
 induction f with
 | zero => intro n l l' p out h1; cases l <;> cases h1
 | succ f ih =>
  intro n l l' p out h1 h2 h3 h4
  obtain ⟨n, rfl⟩ : ∃ m, n = m + 1 := ⟨n - 1, by omega⟩
  cases l with
  | nil => cases h1
  | cons a r =>
   simp only [oc] at h1
   simp only [jC, oq, cis h2]
   split at h1
   ·rename_i ha
    obtain ⟨r1, e1, e2⟩ := Option.bind_eq_some_iff.1 h1
    obtain ⟨x1, x2, x3, x4, x5, x6, x7, x8, q, e, s⟩ := Uu (R := R) hN (A := A) e1 h2
    obtain ⟨o, q', e', s'⟩ := ih n _ _ _ (out ++ [⟨x1, x2, x3, x4, x5, x6, x7, x8⟩]) e2 s (by omega) (by simp; omega)
    refine ⟨o, q', fun kp0 => ?_, s'⟩
    rw [ha, if_pos (by rfl), SG (by omega), if_pos (by rfl), e, if_pos (by simp [ak]; omega)]
    exact e' kp0
   ·rename_i ha
    cases h1
    exact ⟨_, _, fun kp0 => by rw [show isK [99, 101, 114, 116] a = false by simpa using ha, if_neg (by simp)], h2⟩
end
def blank (b : UInt8) : Bool := (((b.toNat : Int) == 32 || (b.toNat : Int) == 9) || (b.toNat : Int) == 10) || (b.toNat : Int) == 13
def ltr (b : UInt8) : Bool := ((decide ((b.toNat : Int) ≥ 97) && decide ((b.toNat : Int) ≤ 122)) || (decide ((b.toNat : Int) ≥ 65) && decide ((b.toNat : Int) ≤ 90))) || (b.toNat : Int) == 95
def dig (b : UInt8) : Bool := decide ((b.toNat : Int) ≥ 48) && decide ((b.toNat : Int) ≤ 57)
def wrd (b : UInt8) : Bool := ltr b || dig b
theorem vw {α : Type} {s : List α} {i : Nat} {b : α} {r : List α} (h : s.drop i = b :: r) : s[i]? = some b ∧ i < s.length ∧ s.drop (i + 1) = r := by
 have h1 : s[i]? = some b := by
  have := congrArg List.head? h
  simpa [List.head?_drop] using this
 refine ⟨h1, (List.getElem?_eq_some_iff.1 h1).1, ?_⟩
 have := congrArg List.tail h
 simpa [List.tail_drop] using this
section
variable {R : Type} {N : Nat}
theorem Ou (b : UInt8) (k : Bool → Option R) : pw N (b.toNat : Int) k = k (ltr b) := by
 unfold pw ltr
 simp only [ax, aZ, Option.bind_some]
theorem Kd (b : UInt8) (k : Bool → Option R) : qg N (b.toNat : Int) k = k (dig b) := by
 unfold qg dig
 simp only [ax, Option.bind_some]
theorem SU (s : List UInt8) (hs : s.length < big) (hno : ∀ b ∈ s, ((b.toNat : Int) == 35) = false) (k : Int → Option R) : ∀ (r : List UInt8) (i n : Nat), s.drop i = r → r.length < n → i ≤ s.length → kT N s (fun y => k y) (fun y => k y) n i = k (i + (r.takeWhile blank).length) := by
 have hb : big = 1000000000 := rfl
 intro r
 induction r with
 | nil =>
  intro i n h hn hi
  obtain ⟨n, rfl⟩ : ∃ m, n = m + 1 := ⟨n - 1, by omega⟩
  have : s.length ≤ i := List.drop_eq_nil_iff.1 h
  simp only [kT, lB]
  rw [decide_eq_false (by omega), if_neg (by simp)]
  simp
 | cons b r ih =>
  intro i n h hn hi
  obtain ⟨n, rfl⟩ : ∃ m, n = m + 1 := ⟨n - 1, by omega⟩
  obtain ⟨h1, h2, h3⟩ := vw h
  simp only [List.length_cons] at hn
  have hat : at? s (i : Int) = some b := bf (by omega) (by simpa using h1)
  simp only [kT, lB]
  rw [decide_eq_true (by omega), if_pos rfl, hat]
  simp only [Option.bind_some, aZ]
  have hbl : ((((b.toNat : Int) == 32 || (b.toNat : Int) == 9) || (b.toNat : Int) == 10) || (b.toNat : Int) == 13) = blank b := rfl
  rw [hbl, hno b (List.mem_of_getElem? h1)]
  rcases Bool.eq_false_or_eq_true (blank b) with hk | hk
  ·rw [if_pos hk, wr _ (by omega) (by omega), show ((i : Int) + 1) = ((i + 1 : Nat) : Int) by omega, ih (i + 1) n h3 (by omega) (by omega), List.takeWhile_cons_of_pos hk]
   congr 1
   simp only [List.length_cons]
   omega
  ·rw [if_neg (by rw [hk]; simp), if_neg (by simp), List.takeWhile_cons_of_neg (by rw [hk]; simp)]
   simp
theorem SV (s : List UInt8) (hs : s.length < big) (x1 x2 x3 x4 : Int) (x5 : List UInt8) (x6 x7 x8 x9 : Int) (x10 : List UInt8) (x11 : Int) (k : Int → Option R) : ∀ (r : List UInt8) (i n : Nat), s.drop i = r → r.length < n → i ≤ s.length → lE N s x1 x2 x3 x4 x5 x6 x7 x8 x9 x10 x11 k n i = k (i + (r.takeWhile wrd).length) := by
 have hb : big = 1000000000 := rfl
 intro r
 induction r with
 | nil =>
  intro i n h hn hi
  obtain ⟨n, rfl⟩ : ∃ m, n = m + 1 := ⟨n - 1, by omega⟩
  have : s.length ≤ i := List.drop_eq_nil_iff.1 h
  simp only [lE, kV]
  rw [decide_eq_false (by omega)]
  simp [ifB]
 | cons b r ih =>
  intro i n h hn hi
  obtain ⟨n, rfl⟩ : ∃ m, n = m + 1 := ⟨n - 1, by omega⟩
  obtain ⟨h1, h2, h3⟩ := vw h
  simp only [List.length_cons] at hn
  have hat : at? s (i : Int) = some b := bf (by omega) (by simpa using h1)
  simp only [lE, kV]
  rw [decide_eq_true (by omega), hat]
  simp only [Option.bind_some, Ou, Kd, aZ, ax, Bool.true_and]
  have hbl : (ltr b || dig b) = wrd b := rfl
  rw [hbl]
  rcases Bool.eq_false_or_eq_true (wrd b) with hk | hk
  ·rw [if_pos hk, wr _ (by omega) (by omega), show ((i : Int) + 1) = ((i + 1 : Nat) : Int) by omega, ih (i + 1) n h3 (by omega) (by omega), List.takeWhile_cons_of_pos hk]
   congr 1
   simp only [List.length_cons]
   omega
  ·rw [if_neg (by rw [hk]; simp), List.takeWhile_cons_of_neg (by rw [hk]; simp)]
   simp
theorem SW (s : List UInt8) (hs : s.length < big) (x1 x2 x3 x4 : Int) (x5 : List UInt8) (x6 x7 x8 x9 : Int) (x10 : List UInt8) (x11 : Int) (k : Int → Option R) : ∀ (r : List UInt8) (i n : Nat), s.drop i = r → r.length < n → i ≤ s.length → lF N s x1 x2 x3 x4 x5 x6 x7 x8 x9 x10 x11 k n i = k (i + (r.takeWhile dig).length) := by
 have hb : big = 1000000000 := rfl
 intro r
 induction r with
 | nil =>
  intro i n h hn hi
  obtain ⟨n, rfl⟩ : ∃ m, n = m + 1 := ⟨n - 1, by omega⟩
  have : s.length ≤ i := List.drop_eq_nil_iff.1 h
  simp only [lF, kW]
  rw [decide_eq_false (by omega)]
  simp [ifB]
 | cons b r ih =>
  intro i n h hn hi
  obtain ⟨n, rfl⟩ : ∃ m, n = m + 1 := ⟨n - 1, by omega⟩
  obtain ⟨h1, h2, h3⟩ := vw h
  simp only [List.length_cons] at hn
  have hat : at? s (i : Int) = some b := bf (by omega) (by simpa using h1)
  simp only [lF, kW]
  rw [decide_eq_true (by omega), hat]
  simp only [Option.bind_some, Kd, ax, Bool.true_and]
  rcases Bool.eq_false_or_eq_true (dig b) with hk | hk
  ·rw [if_pos hk, wr _ (by omega) (by omega), show ((i : Int) + 1) = ((i + 1 : Nat) : Int) by omega, ih (i + 1) n h3 (by omega) (by omega), List.takeWhile_cons_of_pos hk]
   congr 1
   simp only [List.length_cons]
   omega
  ·rw [if_neg (by rw [hk]; simp), List.takeWhile_cons_of_neg (by rw [hk]; simp)]
   simp
end
def Ov : Int → List UInt8 → Option Int
 | n, [] => some n
 | n, b :: r => if (decide (n > (IntKind.wrap .i64 (Int.tdiv (IntKind.wrap .i64 (9223372036854775807 - (IntKind.wrap .i64 (IntKind.wrap .u8 ((b.toNat : Int) - 48))))) 10)))) = true then none
  else Ov (IntKind.wrap .i64 ((IntKind.wrap .i64 (10 * n)) + (IntKind.wrap .i64 (IntKind.wrap .u8 ((b.toNat : Int) - 48))))) r
def QY : List (List UInt8) := [[45, 62], [61, 61], [33, 61], [60, 61], [62, 61], [38, 38], [124, 124]]
def Ow : List UInt8 := [123, 125, 40, 41, 91, 93, 59, 44, 46, 58, 61, 60, 62, 43, 45, 42, 47, 37, 33, 36]
def sgn (r : List UInt8) : Int := if (QY.any fun e => decide (1 < r.length) && r.take 2 == e) = true then 2 else if (Ow.any fun b => ((r.headD 0).toNat : Int) == (b.toNat : Int)) = true then 1 else 0
section
variable {R : Type} {N : Nat}
theorem SX (s : List UInt8) (hs : s.length < big) (k : Int → Bool → Option R) : ∀ (r : List UInt8) (i n : Nat) (a v : Int), s.drop i = r → r.length < n → i ≤ s.length → Ov a r = some v → ju N s (fun y => k y true) (fun y z => k y z) n a i = k v true := by
 have hb : big = 1000000000 := rfl
 intro r
 induction r with
 | nil =>
  intro i n a v h hn hi hv
  obtain ⟨n, rfl⟩ : ∃ m, n = m + 1 := ⟨n - 1, by omega⟩
  have : s.length ≤ i := List.drop_eq_nil_iff.1 h
  cases hv
  simp only [ju, kn]
  rw [decide_eq_false (by omega), if_neg (by simp)]
 | cons b r ih =>
  intro i n a v h hn hi hv
  obtain ⟨n, rfl⟩ : ∃ m, n = m + 1 := ⟨n - 1, by omega⟩
  obtain ⟨h1, h2, h3⟩ := vw h
  simp only [List.length_cons] at hn
  have hat : at? s (i : Int) = some b := bf (by omega) (by simpa using h1)
  simp only [Ov] at hv
  simp only [ju, kn]
  rw [decide_eq_true (by omega), if_pos rfl, hat, Option.bind_some]
  split at hv
  ·cases hv
  ·rename_i hc
   rw [if_neg hc, wr ((i : Int) + 1) (by omega) (by omega), show ((i : Int) + 1) = ((i + 1 : Nat) : Int) by omega]
   exact ih (i + 1) n _ v h3 (by omega) (by omega) hv
theorem Ox (s : List UInt8) (hN : big ≤ N) (hs : s.length < big) (k : Int → Bool → Option R) {v : Int} (hv : Ov 0 s = some v) : xy N s k = k v true := by
 unfold xy
 exact SX s hs k s 0 N 0 v rfl (by omega) (by omega) hv
theorem sign_eq (s : List UInt8) (hN : big ≤ N) (hs : s.length < big) (i : Nat) {b : UInt8} {r : List UInt8} (h : s.drop i = b :: r) (k : Int → Option R) : yE N s i k = k (sgn (b :: r)) := by
 have hb : big = 1000000000 := rfl
 obtain ⟨h1, h2, h3⟩ := vw h
 have hat : at? s (i : Int) = some b := bf (by omega) (by simpa using h1)
 have hlen : s.length = i + (r.length + 1) := by have := congrArg List.length h; simp at this; omega
 have l2 := search (l := Ow) (fun e => (b.toNat : Int) == (e.toNat : Int)) (fun j => if j < 0 then k 0 else k 1) (by rw [hb]; decide) (fun n j => iN N s i [123, 125, 40, 41, 91, 93, 59, 44, 46, 58, 61, 60, 62, 43, 45, 42, 47, 37, 33, 36] (k 0) (fun y => k y) n j) (fun n j e g0 g1 g2 g3 g4 => ?_) (fun n j g => ?_) N (by have : Ow.length = 20 := rfl; omega)
 rotate_left
 ·have g2' : decide (j < ((([123, 125, 40, 41, 91, 93, 59, 44, 46, 58, 61, 60, 62, 43, 45, 42, 47, 37, 33, 36] : List UInt8).length : Nat) : Int)) = true := g2
  have g3' : at? ([123, 125, 40, 41, 91, 93, 59, 44, 46, 58, 61, 60, 62, 43, 45, 42, 47, 37, 33, 36] : List UInt8) j = some e := g3
  simp only [iN, lD]
  rw [g2', if_pos rfl, hat, Option.bind_some, g3', Option.bind_some]
  by_cases hn : ((b.toNat : Int) == (e.toNat : Int)) = true
  ·rw [if_pos hn, if_pos hn, if_neg (by omega)]
  ·rw [if_neg hn, if_neg hn]
 ·have g' : decide (j < ((([123, 125, 40, 41, 91, 93, 59, 44, 46, 58, 61, 60, 62, 43, 45, 42, 47, 37, 33, 36] : List UInt8).length : Nat) : Int)) = false := g
  simp only [iN, lD]
  rw [g', if_neg (by simp), if_pos (by omega)]
 unfold yE
 refine (search (l := QY) (fun e => decide (1 < (b :: r).length) && (b :: r).take 2 == e) (fun j => if j < 0 then iN N s i [123, 125, 40, 41, 91, 93, 59, 44, 46, 58, 61, 60, 62, 43, 45, 42, 47, 37, 33, 36] (k 0) (fun y => k y) N 0 else k 2) (by rw [hb]; decide) (fun n j => kU N s i [45, 62] [61, 61] [33, 61] [60, 61] [62, 61] [38, 38] [124, 124] (iN N s i [123, 125, 40, 41, 91, 93, 59, 44, 46, 58, 61, 60, 62, 43, 45, 42, 47, 37, 33, 36] (k 0) (fun y => k y) N 0) (fun y => k y) n j) (fun n j e g0 g1 g2 g3 g4 => ?_) (fun n j g => ?_) N (by have : QY.length = 7 := rfl; omega)).trans ?_
 ·have g2' : decide (j < 7) = true := g2
  have g1' : j < 7 := g1
  have g4' : ([[45, 62], [61, 61], [33, 61], [60, 61], [62, 61], [38, 38], [124, 124]] : List (List UInt8))[0 + Int.toNat j * 1]? = some e := by rw [Nat.zero_add, Nat.mul_one]; exact g4
  simp only [kU, lC]
  rw [g2', if_pos rfl, g4', Option.bind_some, wr ((i : Int) + 1) (by omega) (by omega), wr ((i : Int) + 2) (by omega) (by omega)]
  by_cases hl : 1 < (b :: r).length
  ·have hl' : (i : Int) + 1 < ((s.length : Nat) : Int) := by simp at hl; omega
   rw [decide_eq_true hl', decide_eq_true hl, if_pos ⟨by omega, by omega, by omega⟩, if_pos ⟨g0, by omega⟩]
   have hsl : (s.take ((i : Int) + 2).toNat).drop (i : Int).toNat = (b :: r).take 2 := by
    rw [← h, List.take_drop]
    congr 2
   rw [hsl]
   simp only [ifB, BEq.rfl, if_true, Option.bind_some, Bool.true_and]
   by_cases hn : ((b :: r).take 2 == e) = true
   ·rw [if_pos hn, if_pos hn, if_neg (by omega)]
   ·rw [if_neg hn, if_neg hn]
  ·have hl' : ¬ (i : Int) + 1 < ((s.length : Nat) : Int) := by simp only [List.length_cons] at hl; omega
   rw [decide_eq_false hl', decide_eq_false hl]
   simp [ifB]
 ·have g' : decide (j < 7) = false := g
  simp only [kU, lC]
  rw [g', if_neg (by simp), if_pos (by omega)]
 ·unfold sgn
  rw [← bj]
  by_cases hz : idx (fun e => decide (1 < (b :: r).length) && (b :: r).take 2 == e) QY < 0
  ·rw [if_pos hz, decide_eq_false (by omega), if_neg (by simp), l2]
   have hh : (List.headD (b :: r) 0) = b := rfl
   rw [hh, ← bj]
   by_cases hy : idx (fun e : UInt8 => (b.toNat : Int) == (e.toNat : Int)) Ow < 0
   ·rw [if_pos hy, decide_eq_false (by omega), if_neg (by simp)]
   ·rw [if_neg hy, decide_eq_true (by omega), if_pos rfl]
  ·rw [if_neg hz, decide_eq_true (by omega), if_pos rfl]
end
def MJ : List UInt8 → Option (Tk × Nat)
 | [] => none
 | b :: r => if ltr b = true then (if ((b :: r).takeWhile wrd).length > 24 then none else some ((1, (b :: r).takeWhile wrd, 0), ((b :: r).takeWhile wrd).length))
  else if dig b = true then (if (decide (((b :: r).takeWhile dig).length > 1) && (b.toNat : Int) == 48) = true then none else (Ov 0 ((b :: r).takeWhile dig)).map fun v => ((2, (b :: r).takeWhile dig, v), ((b :: r).takeWhile dig).length))
  else if sgn (b :: r) = 0 ∨ (b :: r).length < (sgn (b :: r)).toNat then none else some ((3, (b :: r).take (sgn (b :: r)).toNat, 0), (sgn (b :: r)).toNat)
theorem DF {α : Type} (p : α → Bool) : ∀ l : List α, l.take (l.takeWhile p).length = l.takeWhile p
 | [] => rfl
 | x :: r => by
  rcases Bool.eq_false_or_eq_true (p x) with h | h
  ·rw [List.takeWhile_cons_of_pos h, List.length_cons, List.take_succ_cons, DF p r]
  ·rw [List.takeWhile_cons_of_neg (by rw [h]; simp)]; rfl
theorem BU {α : Type} (p : α → Bool) (l : List α) : (l.takeWhile p).length ≤ l.length := by
 have := congrArg List.length (DF p l)
 simp only [List.length_take] at this
 omega
theorem QZ (r : List UInt8) : 0 ≤ sgn r ∧ sgn r ≤ 2 := by
 unfold sgn
 split
 ·omega
 ·split <;> omega
section
variable {R : Type} {N : Nat}
theorem DT {s : List UInt8} {i n : Nat} {l : List UInt8} (h : s.drop i = l) : (s.take ((i : Int) + n).toNat).drop (i : Int).toNat = l.take n := by
 rw [← h, List.take_drop]
 congr 2
theorem SY (s : List UInt8) (hN : big ≤ N) (hs : s.length < big) (i : Nat) {l : List UInt8} (h : s.drop i = l) {t : Tk} {n : Nat} (ho : MJ l = some (t, n)) (k : Int → Int → Int → List UInt8 → Int → Int → Option R) :
  Cf N s i k = k t.1 i ((i : Int) + n) t.2.1 t.2.2 0 ∧ 1 ≤ n ∧ n ≤ l.length := by
 have hb : big = 1000000000 := rfl
 cases l with
 | nil => cases ho
 | cons b r =>
  obtain ⟨h1, h2, h3⟩ := vw h
  have hat : at? s (i : Int) = some b := bf (by omega) (by simpa using h1)
  have hlen : s.length = i + (r.length + 1) := by have := congrArg List.length h; simp at this; omega
  unfold Cf
  rw [hat, Option.bind_some, Ou]
  simp only [MJ] at ho
  rcases Bool.eq_false_or_eq_true (ltr b) with hl | hl
  ·rw [if_pos hl] at ho
   rw [if_pos hl]
   have hwl := BU wrd (b :: r)
   have hw1 : 1 ≤ ((b :: r).takeWhile wrd).length := by rw [List.takeWhile_cons_of_pos (by simp [wrd, hl])]; simp
   have hcut := DT (n := ((b :: r).takeWhile wrd).length) h
   rw [DF] at hcut
   simp only [List.length_cons] at hwl
   split at ho
   ·cases ho
   ·rename_i h24
    cases ho
    rw [SV s hs _ _ _ _ _ _ _ _ _ _ _ _ (b :: r) i N h (by simp; omega) (by omega), wr _ (by omega) (by omega), decide_eq_false (by omega), if_neg (by simp)]
    unfold jw
    rw [if_pos ⟨by omega, by omega, by omega⟩, hcut]
    exact ⟨rfl, hw1, by simpa using hwl⟩
  ·rw [if_neg (by rw [hl]; simp)] at ho
   rw [if_neg (by rw [hl]; simp), Option.bind_some, Kd]
   rcases Bool.eq_false_or_eq_true (dig b) with hd | hd
   ·rw [if_pos hd] at ho
    rw [if_pos hd]
    have hwl := BU dig (b :: r)
    have hw1 : 1 ≤ ((b :: r).takeWhile dig).length := by rw [List.takeWhile_cons_of_pos hd]; simp
    have hcut := DT (n := ((b :: r).takeWhile dig).length) h
    rw [DF] at hcut
    simp only [List.length_cons] at hwl
    split at ho
    ·cases ho
    ·rename_i h0
     obtain ⟨v, hv, e⟩ := Option.map_eq_some_iff.1 ho
     cases e
     rw [SW s hs _ _ _ _ _ _ _ _ _ _ _ _ (b :: r) i N h (by simp; omega) (by omega), wr _ (by omega) (by omega)]
     simp only [Option.bind_some, ax]
     rw [show decide ((i : Int) + (((b :: r).takeWhile dig).length : Nat) - (i : Int) > 1) = decide (((b :: r).takeWhile dig).length > 1) from decide_eq_decide.2 (by omega), if_neg h0, if_pos ⟨by omega, by omega, by omega⟩, hcut, Ox _ hN (by omega) _ hv, if_neg (by simp)]
     unfold jw
     rw [if_pos ⟨by omega, by omega, by omega⟩, hcut]
     exact ⟨rfl, hw1, by simpa using hwl⟩
   ·rw [if_neg (by rw [hd]; simp)] at ho
    rw [if_neg (by rw [hd]; simp), sign_eq s hN hs i h]
    split at ho
    ·cases ho
    ·rename_i hz
     cases ho
     have hp := QZ (b :: r)
     have hz1 : sgn (b :: r) ≠ 0 := fun e => hz (.inl e)
     have hz2 : ¬ (b :: r).length < (sgn (b :: r)).toNat := fun e => hz (.inr e)
     have hz3 : (sgn (b :: r)).toNat ≤ r.length + 1 := by simp only [List.length_cons] at hz2; omega
     have hcut := DT (n := (sgn (b :: r)).toNat) h
     have hcast : ((sgn (b :: r)).toNat : Int) = sgn (b :: r) := by omega
     rw [if_neg (by simpa using hz1), wr _ (by omega) (by omega)]
     rw [hcast] at hcut ⊢
     unfold jw
     rw [if_pos ⟨by omega, by omega, by omega⟩, hcut]
     exact ⟨rfl, by omega, by simp only [List.length_cons]; omega⟩
end
def lexB : Nat → Int → List UInt8 → Option (List Token)
 | 0, _, _ => none
 | _ + 1, _, [] => some []
 | f + 1, off, b :: r => (MJ (b :: r)).bind fun p => (lexB f (off + p.2 + (((b :: r).drop p.2).takeWhile blank).length) (((b :: r).drop p.2).dropWhile blank)).map fun l => ⟨p.1.1, off, off + p.2, p.1.2.1, p.1.2.2⟩ :: l
def xf (f : Nat) (off : Int) (l : List UInt8) : Option (List Token) := lexB f (off + (l.takeWhile blank).length) (l.dropWhile blank)
theorem Hb {α : Type} (p : α → Bool) : ∀ l : List α, l.drop (l.takeWhile p).length = l.dropWhile p
 | [] => rfl
 | x :: r => by
  rcases Bool.eq_false_or_eq_true (p x) with h | h
  ·rw [List.takeWhile_cons_of_pos h, List.length_cons, List.drop_succ_cons, Hb p r, List.dropWhile_cons_of_pos h]
  ·rw [List.takeWhile_cons_of_neg (by rw [h]; simp), List.dropWhile_cons_of_neg (by rw [h]; simp)]; rfl
section
variable {R : Type} {N : Nat}
theorem SH (s : List UInt8) (hN : big ≤ N) (hs : s.length < big) (hno : ∀ b ∈ s, ((b.toNat : Int) == 35) = false) {i : Nat} (hi : i ≤ s.length) {r : List UInt8} (h : s.drop i = r) (k : Int → Option R) :
  vA N s i k = k ((i + (r.takeWhile blank).length : Nat) : Int) ∧ s.drop (i + (r.takeWhile blank).length) = r.dropWhile blank ∧ i + (r.takeWhile blank).length ≤ s.length := by
 have hb : big = 1000000000 := rfl
 have hl := BU blank r
 have hrl : r.length = s.length - i := by rw [← h]; simp
 refine ⟨?_, by rw [← List.drop_drop, h, Hb], by omega⟩
 unfold vA
 rw [SU s hs hno k r i N h (by omega) hi]
 congr 1
theorem Ra (s : List UInt8) (hN : big ≤ N) (hs : s.length < big) (hno : ∀ b ∈ s, ((b.toNat : Int) == 35) = false) (v1 v2 : Int) (kp0 : List Token → Option R) (kp1 : Int → Int → Option R) : ∀ (f n i : Nat) (l : List UInt8) (L out : List Token), s.drop i = l → i ≤ s.length → lexB f i l = some L → f ≤ n → out.length + f ≤ 100000 → jc N s v1 v2 kp0 kp1 n i out = kp0 (out ++ L) := by
 have hb : big = 1000000000 := rfl
 intro f
 induction f with
 | zero => intro n i l L out h hi hx; cases hx
 | succ f ih =>
  intro n i l L out h hi hx hn ho
  obtain ⟨n, rfl⟩ : ∃ m, n = m + 1 := ⟨n - 1, by omega⟩
  cases l with
  | nil =>
   cases hx
   have : s.length ≤ i := List.drop_eq_nil_iff.1 h
   simp only [jc, nM]
   rw [decide_eq_false (by omega), if_neg (by simp)]
   simp
  | cons b r =>
   simp only [lexB] at hx
   obtain ⟨p, hp, hx⟩ := Option.bind_eq_some_iff.1 hx
   obtain ⟨l', hl', e⟩ := Option.map_eq_some_iff.1 hx
   subst e
   obtain ⟨h1, h2, h3⟩ := vw h
   simp only [jc, nM]
   rw [decide_eq_true (by omega), if_pos rfl]
   obtain ⟨e1, e2, e3⟩ := SY s hN hs i h (t := p.1) (n := p.2) hp (fun (r18 : Int) (r19 : Int) (r20 : Int) (r21 : List UInt8) (r22 : Int) (r23 : Int) =>
 if (r23 != 0) = true then
  (kp1 r23 i)
 else
  (if out.length + [(⟨r18, r19, r20, r21, r22⟩ : Token)].length ≤ ak then (vA N s r20 (fun (r24 : Int) =>
 jc N s v1 v2 kp0 kp1 n r24 (out ++ [(⟨r18, r19, r20, r21, r22⟩ : Token)]))) else none))
   rw [e1]
   have hlen : s.length = i + (r.length + 1) := by have := congrArg List.length h; simp at this; omega
   simp only [List.length_cons] at e3
   have hd : s.drop (i + p.2) = (b :: r).drop p.2 := by rw [← List.drop_drop, h]
   obtain ⟨g1, g2, g3⟩ := SH s hN hs hno (show i + p.2 ≤ s.length by omega) hd (fun (r24 : Int) =>
 jc N s v1 v2 kp0 kp1 n r24 (out ++ [(⟨p.1.1, i, (i : Int) + p.2, p.1.2.1, p.1.2.2⟩ : Token)]))
   rw [if_neg (by simp), if_pos (by simp [ak]; omega), show ((i : Int) + p.2) = ((i + p.2 : Nat) : Int) by omega] 
   rw [show ((i : Int) + p.2) = ((i + p.2 : Nat) : Int) by omega] at g1
   rw [g1]
   rw [show ((i : Int) + p.2 + (((b :: r).drop p.2).takeWhile blank).length) = ((i + p.2 + (((b :: r).drop p.2).takeWhile blank).length : Nat) : Int) by omega] at hl'
   rw [ih n _ _ l' _ g2 g3 hl' (by omega) (by simp; omega)]
   simp
theorem all_eq (s : List UInt8) (hN : big ≤ N) (hs : s.length ≤ 16384) (hno : ∀ b ∈ s, ((b.toNat : Int) == 35) = false) (k : List Token → Int → Int → Option R) {f : Nat} (hf : f ≤ 90000) {L : List Token} (hx : xf f 0 s = some L) :
  zG N s k = k (L ++ [⟨4, s.length, s.length, [], 0⟩]) 0 0 ∨ ak < L.length + 1 := by
 have hb : big = 1000000000 := rfl
 by_cases hm : ak < L.length + 1
 ·exact .inr hm
 refine .inl ?_
 unfold zG
 rw [decide_eq_false (by omega), if_neg (by simp)]
 obtain ⟨g1, g2, g3⟩ := SH s hN (by omega) hno (i := 0) (by omega) (r := s) rfl (fun (r1 : Int) =>
 jc N s 0 0 (fun (y25 : List Token) =>
 if y25.length + ([(⟨4, ((s.length : Nat) : Int), ((s.length : Nat) : Int), [], 0⟩ : Token)]).length ≤ ak then (k (y25 ++ ([(⟨4, ((s.length : Nat) : Int), ((s.length : Nat) : Int), [], 0⟩ : Token)])) 0 0) else none)
  (fun (y26 : Int) (y27 : Int) =>
 k ([] : List Token) y26 y27) N r1 ([] : List Token))
 rw [show ((0 : Nat) : Int) = 0 from rfl] at g1
 rw [g1]
 unfold xf at hx
 rw [show (0 : Int) + ((s.takeWhile blank).length : Nat) = ((0 + (s.takeWhile blank).length : Nat) : Int) by omega] at hx
 rw [Ra s hN (by omega) hno 0 0 _ _ f N _ _ L [] g2 g3 hx (by omega) (by simp; omega)]
 simp only [List.nil_append]
 rw [if_pos (by simp only [List.length_cons, List.length_nil]; omega)]
end
def Nl (l : List UInt8) : Prop := l = [] ∨ l.getLast? = some 10
theorem Hc {α : Type} (p : α → Bool) : ∀ (l B : List α), (∃ x ∈ l, p x = false) → (l ++ B).takeWhile p = l.takeWhile p ∧ (l ++ B).dropWhile p = l.dropWhile p ++ B
 | [], B, h => by obtain ⟨x, hx, _⟩ := h; cases hx
 | x :: r, B, h => by
  rcases Bool.eq_false_or_eq_true (p x) with hx | hx
  ·have : ∃ y ∈ r, p y = false := by
    obtain ⟨y, hy, hp⟩ := h
    rcases List.mem_cons.1 hy with rfl | hy
    ·rw [hx] at hp; cases hp
    ·exact ⟨y, hy, hp⟩
   obtain ⟨h1, h2⟩ := Hc p r B this
   rw [List.cons_append, List.takeWhile_cons_of_pos hx, List.takeWhile_cons_of_pos hx, List.dropWhile_cons_of_pos hx, List.dropWhile_cons_of_pos hx, h1, h2]
   exact ⟨rfl, rfl⟩
  ·have hn : ¬ p x = true := by rw [hx]; simp
   rw [List.cons_append, List.takeWhile_cons_of_neg hn, List.takeWhile_cons_of_neg hn, List.dropWhile_cons_of_neg hn, List.dropWhile_cons_of_neg hn]
   exact ⟨rfl, rfl⟩
theorem Oy {α : Type} (p : α → Bool) : ∀ (l B : List α), l.dropWhile p = [] → (l ++ B).takeWhile p = l ++ B.takeWhile p ∧ (l ++ B).dropWhile p = B.dropWhile p
 | [], B, _ => ⟨rfl, rfl⟩
 | x :: r, B, h => by
  rcases Bool.eq_false_or_eq_true (p x) with hx | hx
  ·rw [List.dropWhile_cons_of_pos hx] at h
   obtain ⟨h1, h2⟩ := Oy p r B h
   rw [List.cons_append, List.takeWhile_cons_of_pos hx, List.dropWhile_cons_of_pos hx, h1, h2]
   exact ⟨rfl, rfl⟩
  ·rw [List.dropWhile_cons_of_neg (by rw [hx]; simp)] at h; cases h
theorem LW {α : Type} (p : α → Bool) : ∀ (l : List α) {b : α} {r : List α}, l.dropWhile p = b :: r → p b = false
 | [], _, _, h => by cases h
 | x :: r, b, r', h => by
  rcases Bool.eq_false_or_eq_true (p x) with hx | hx
  ·rw [List.dropWhile_cons_of_pos hx] at h; exact LW p r h
  ·rw [List.dropWhile_cons_of_neg (by rw [hx]; simp)] at h; cases h; exact hx
theorem Nl.drop {l : List UInt8} (h : Nl l) (n : Nat) : Nl (l.drop n) := by
 rcases h with rfl | h
 ·exact .inl (by simp)
 ·by_cases hn : l.length ≤ n
  ·exact .inl (List.drop_eq_nil_of_le hn)
  ·exact .inr (by rw [List.getLast?_drop, if_neg hn]; exact h)
theorem Nl.mem {l : List UInt8} (h : Nl l) (hl : l ≠ []) : (10 : UInt8) ∈ l := by
 rcases h with rfl | h
 ·exact absurd rfl hl
 ·exact List.mem_of_getLast? h
theorem Oz {b : UInt8} {r B : List UInt8} (hb : blank b = false) (hn : Nl (b :: r)) {x : Tk × Nat} (h : MJ (b :: r) = some x) : MJ (b :: r ++ B) = some x ∧ x.2 ≤ (b :: r).length := by
 have hm := hn.mem (by simp)
 have h1 := (Hc wrd (b :: r) B ⟨10, hm, by decide⟩).1
 have h2 := (Hc dig (b :: r) B ⟨10, hm, by decide⟩).1
 have hr : r ≠ [] := by
  rintro rfl
  have : (10 : UInt8) = b := by simpa using hm
  subst this
  exact absurd hb (by decide)
 obtain ⟨c, r', rfl⟩ : ∃ c r', r = c :: r' := by cases r with | nil => exact absurd rfl hr | cons c r' => exact ⟨c, r', rfl⟩
 have h3 : sgn (b :: c :: r' ++ B) = sgn (b :: c :: r') := by
  unfold sgn
  simp
 have l1 := BU wrd (b :: c :: r')
 have l2 := BU dig (b :: c :: r')
 simp only [MJ, List.cons_append] at h ⊢
 rw [List.cons_append, List.cons_append] at h1 h2 h3
 rw [h1, h2, h3]
 split at h
 ·rename_i q
  rw [if_pos q]
  split at h
  ·cases h
  ·rename_i q2; rw [if_neg q2]; cases h; exact ⟨rfl, l1⟩
 ·rename_i q
  rw [if_neg q]
  split at h
  ·rename_i q2
   rw [if_pos q2]
   split at h
   ·cases h
   ·rename_i q3
    rw [if_neg q3]
    refine ⟨h, ?_⟩
    obtain ⟨v, _, e⟩ := Option.map_eq_some_iff.1 h
    subst e
    exact l2
  ·rename_i q2
   rw [if_neg q2]
   split at h
   ·cases h
   ·rename_i q3
    have q4 : ¬ (b :: c :: r').length < (sgn (b :: c :: r')).toNat := fun e => q3 (.inr e)
    have q5 : ¬ sgn (b :: c :: r') = 0 := fun e => q3 (.inl e)
    simp only [List.length_cons] at q4
    rw [if_neg (by rintro (e | e); exact q5 e; simp only [List.length_cons, List.length_append] at e; omega)]
    cases h
    refine ⟨?_, by simp only [List.length_cons]; omega⟩
    have : (b :: c :: (r' ++ B)).take (sgn (b :: c :: r')).toNat = (b :: c :: r').take (sgn (b :: c :: r')).toNat := by
     rw [← List.cons_append, ← List.cons_append, List.take_append_of_le_length (by simp only [List.length_cons]; omega)]
    rw [this]
theorem MK : ∀ (f g : Nat) (off : Int) (l : List UInt8) (L : List Token), lexB f off l = some L → f ≤ g → lexB g off l = some L := by
 intro f
 induction f with
 | zero => intro g off l L h; cases h
 | succ f ih =>
  intro g off l L h hg
  obtain ⟨g, rfl⟩ : ∃ m, g = m + 1 := ⟨g - 1, by omega⟩
  cases l with
  | nil => exact h
  | cons b r =>
   simp only [lexB] at h ⊢
   obtain ⟨p, hp, h⟩ := Option.bind_eq_some_iff.1 h
   obtain ⟨l', hl', e⟩ := Option.map_eq_some_iff.1 h
   rw [hp, Option.bind_some, ih g _ _ _ hl' (by omega)]
   exact congrArg some e
theorem Il {B : List UInt8} {f2 : Nat} {L2 : List Token} : ∀ (f1 : Nat) (off : Int) (A : List UInt8) (L1 : List Token), Nl A → xf f1 off A = some L1 → xf f2 (off + A.length) B = some L2 → xf (f1 + f2) off (A ++ B) = some (L1 ++ L2) := by
 intro f1
 induction f1 with
 | zero => intro off A L1 hn h; unfold xf at h; cases A.dropWhile blank <;> cases h
 | succ f1 ih =>
  intro off A L1 hn h h2
  unfold xf at h ⊢
  cases hd : A.dropWhile blank with
  | nil =>
   rw [hd] at h
   cases h
   obtain ⟨e1, e2⟩ := Oy blank A B hd
   rw [e1, e2]
   unfold xf at h2
   have := MK _ (f1 + 1 + f2) _ _ _ h2 (by omega)
   rw [show off + ((A ++ B.takeWhile blank).length : Nat) = off + (A.length : Nat) + ((B.takeWhile blank).length : Nat) by simp; omega]
   exact this
  | cons b r =>
   rw [hd] at h
   have hb := LW blank A hd
   have hsuf : b :: r = A.drop (A.takeWhile blank).length := by rw [Hb, hd]
   have hn2 : Nl (b :: r) := by rw [hsuf]; exact hn.drop _
   have hbm : b ∈ A := by
    have : b ∈ A.drop (A.takeWhile blank).length := by rw [← hsuf]; exact List.mem_cons_self ..
    exact List.mem_of_mem_drop this
   obtain ⟨e1, e2⟩ := Hc blank A B ⟨b, hbm, hb⟩
   rw [e1, e2, hd]
   rw [show f1 + 1 + f2 = (f1 + f2) + 1 by omega]
   simp only [lexB] at h
   obtain ⟨p, hp, h⟩ := Option.bind_eq_some_iff.1 h
   obtain ⟨l', hl', e⟩ := Option.map_eq_some_iff.1 h
   obtain ⟨o1, o2⟩ := Oz (B := B) hb hn2 hp
   have hlen : A.length = (A.takeWhile blank).length + (b :: r).length := by
    have h1 := congrArg List.length hsuf
    have h2 := BU blank A
    rw [List.length_drop] at h1
    omega
   have hdr : (b :: r ++ B).drop p.2 = (b :: r).drop p.2 ++ B := List.drop_append_of_le_length o2
   have key := ih (off + (A.takeWhile blank).length + p.2) ((b :: r).drop p.2) l' (hn2.drop _) hl' (by
    rw [show off + ((A.takeWhile blank).length : Nat) + (p.2 : Nat) + (((b :: r).drop p.2).length : Nat) = off + (A.length : Nat) by rw [List.length_drop]; omega]
    exact h2)
   unfold xf at key
   rw [← hdr] at key
   rw [List.cons_append] at o1 key ⊢
   simp only [lexB]
   rw [o1, Option.bind_some, key, Option.map_some, ← e]
   rfl
theorem Rb : ∀ (f : Nat) (off off' : Int) (l : List UInt8) (L : List Token), lexB f off l = some L → ∃ L', lexB f off' l = some L' ∧ L'.map tk = L.map tk := by
 intro f
 induction f with
 | zero => intro off off' l L h; cases h
 | succ f ih =>
  intro off off' l L h
  cases l with
  | nil => cases h; exact ⟨[], rfl, rfl⟩
  | cons b r =>
   simp only [lexB] at h ⊢
   obtain ⟨p, hp, h⟩ := Option.bind_eq_some_iff.1 h
   obtain ⟨l', hl', e⟩ := Option.map_eq_some_iff.1 h
   obtain ⟨L', h1, h2⟩ := ih _ (off' + p.2 + (((b :: r).drop p.2).takeWhile blank).length) _ _ hl'
   subst e
   rw [hp, Option.bind_some, h1]
   exact ⟨_, rfl, by simp [h2, tk]⟩
end So
