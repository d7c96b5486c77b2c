/- The reference's check in plain words: configurations, by places. -/
import Derived.Test.YtcllbmdpckfnhaaGreatPF
set_option maxRecDepth 1000000
set_option linter.unusedVariables false
set_option linter.unusedSimpArgs false
namespace So
open Go TE Go.Proofs
def lz (l : List Int) (q : Int) : Bool := l.any fun e => e == q
theorem kb {l : List Int} {q : Int} : lz l q = true ↔ q ∈ l := by
 unfold lz
 rw [List.any_eq_true]
 constructor
 ·rintro ⟨x, hx, h⟩; simp only [beq_iff_eq] at h; exact h ▸ hx
 ·intro h; exact ⟨q, h, by simp⟩
def ofF (all : List Int) : Nat → Int → List Int
 | 0, _ => []
 | m + 1, i => (if lz all i = true then [i] else []) ++ ofF all m (i + 1)
def ofL (all : List Int) : List Int := ofF all 128 0
theorem AD (all : List Int) : ∀ (m : Nat) (i q : Int), q ∈ ofF all m i ↔ (i ≤ q ∧ q < i + m) ∧ q ∈ all
 | 0, i, q => by simp [ofF]; omega
 | m + 1, i, q => by
  simp only [ofF, List.mem_append, AD all m (i + 1) q]
  by_cases hq : q = i
  ·subst hq
   by_cases h : lz all q = true
   ·simp [h, kb.1 h]; omega
   ·have : q ∉ all := fun hc => h (kb.2 hc)
    simp [h, this]
  ·by_cases h : lz all i = true
   ·simp [h, hq]; omega
   ·simp [h]; omega
theorem Eh (all : List Int) : ∀ (m : Nat) (i : Int), (ofF all m i).Pairwise (· < ·)
 | 0, i => by simp [ofF]
 | m + 1, i => by
  simp only [ofF]
  rw [List.pairwise_append]
  refine ⟨by split <;> simp, Eh all m (i + 1), fun a ha b hb => ?_⟩
  have hb' := (AD all m (i + 1) b).1 hb
  split at ha
  ·simp only [List.mem_singleton] at ha; omega
  ·simp at ha
theorem Ml (all : List Int) : ∀ (m : Nat) (i : Int), (ofF all m i).length ≤ m
 | 0, i => by simp [ofF]
 | m + 1, i => by
  have := Ml all m (i + 1)
  simp only [ofF, List.length_append]
  split <;> simp <;> omega
def kI (q : Int) : Int → List Node → List Int
 | _, [] => []
 | i, x :: r => (if (x.Parent == q) = true then [i] else []) ++ kI q (i + 1) r
theorem Pd (q : Int) : ∀ (l : List Node) (i k : Int), k ∈ kI q i l → ∃ x, i ≤ k ∧ l[(k - i).toNat]? = some x ∧ x.Parent = q
 | x :: r, i, k, h => by
  simp only [kI, List.mem_append] at h
  rcases h with h | h
  ·split at h
   ·rename_i hp
    simp only [List.mem_singleton] at h
    subst h
    exact ⟨x, by omega, by simp, by simpa using hp⟩
   ·simp at h
  ·obtain ⟨y, h1, h2, h3⟩ := Pd q r (i + 1) k h
   refine ⟨y, by omega, ?_, h3⟩
   rw [show (k - i).toNat = (k - (i + 1)).toNat + 1 by omega]
   simpa using h2
theorem Kv (q : Int) : ∀ (l : List Node) (i : Int), (kI q i l).length ≤ l.length
 | [], i => by simp [kI]
 | x :: r, i => by
  have := Kv q r (i + 1)
  simp only [kI, List.length_append, List.length_cons]
  split <;> simp <;> omega
def qe (nd : List Node) (k : Int) : Int := ((nd[k.toNat]?).map (·.Parent)).getD (-1)
def kdI (nd : List Node) (k : Int) : Int := ((nd[k.toNat]?).map (·.Kind)).getD 0
def chn (par : Int → Int) : Nat → Int → List Int
 | 0, _ => []
 | m + 1, k => if k < 0 then [] else k :: chn par m (par k)
theorem Mm (par : Int → Int) : ∀ (m : Nat) (k : Int), (chn par m k).length ≤ m
 | 0, _ => by simp [chn]
 | m + 1, k => by
  have := Mm par m (par k)
  simp only [chn]
  split <;> simp; omega
def Pe (nd : List Node) : Prop := nd.length ≤ 64 ∧ ∀ (i : Nat) x, nd[i]? = some x → x.Kind ≤ 3 ∧ -1 ≤ x.Parent ∧ x.Parent < i ∧ (0 < i → 0 ≤ x.Parent)
def uC (nd : List Node) (conf : List Int) (q : Int) : Bool := !((kdI nd q == 2) && ((((kI q 0 nd).filter (lz conf)).length : Int) != 1)) && !((kdI nd q == 3) && ((((kI q 0 nd).filter (lz conf)).length : Int) != (((kI q 0 nd).length : Nat) : Int)))
def IA (nd : List Node) (pre : List Int) (a : Int) : Bool := !(decide (a ≥ 0) && decide (a < ((nd.length : Nat) : Int))) || (kdI nd a != 1) || lz pre a
def okA (nd : List Node) : List Int → List Int → Bool
 | _, [] => true
 | pre, a :: r => !IA nd pre a && okA nd (pre ++ [a]) r
def pj (nd : List Node) (l : List Int) : List Int := l.flatMap fun a => chn (qe nd) 64 a
def Ei (nd : List Node) (atoms : List Int) : Bool := okA nd [] atoms && (lz (ofL (pj nd atoms)) 0 && (ofL (pj nd atoms)).all (uC nd (ofL (pj nd atoms))))
section
variable {R : Type} {N : Nat}
theorem Tj (all : List Int) (k : List Int → Option R) (hN : big ≤ N) (hl : all.length < big) : GC N all k = k (ofL all) := by
 have hb : big = 1000000000 := rfl
 unfold GC
 have key : ∀ (m n : Nat) (i : Int) (out : List Int), i + m = 128 → 0 ≤ i → (out.length : Int) ≤ i → m < n → vh N all (fun y => k y) n i out = k (out ++ ofF all m i) := by
  intro m
  induction m with
  | zero =>
   intro n i out h h0 ho hn
   obtain ⟨n, rfl⟩ : ∃ q, n = q + 1 := ⟨n - 1, by omega⟩
   have : decide (i < 128) = false := by simp; omega
   simp [vh, vW, this, ofF]
  | succ m ih =>
   intro n i out h h0 ho hn
   obtain ⟨n, rfl⟩ : ∃ q, n = q + 1 := ⟨n - 1, by omega⟩
   have : decide (i < 128) = true := by simp; omega
   simp only [vh, vW, this, if_true]
   rw [xh _ _ _ hN hl, wr (i + 1) (by omega) (by omega)]
   simp only [ofF]
   by_cases hh : lz all i = true
   ·rw [if_pos (show (all.any fun e => e == i) = true from hh), if_pos hh, if_pos (by simp [ak]; omega), ih n (i + 1) _ (by omega) (by omega) (by simp; omega) (by omega)]
    simp
   ·rw [if_neg (show ¬ (all.any fun e => e == i) = true from hh), if_neg hh, ih n (i + 1) _ (by omega) (by omega) (by omega) (by omega)]
    simp
 have := key 128 N 0 [] (by omega) (by omega) (by simp) (by omega)
 simpa [ofL] using this
theorem Mn (a b : List Int) (k : List Int → Option R) (hN : big ≤ N) (ha : a.length < big) (hb' : b.length < big) : EW N a b k = k (a.filter fun x => !lz b x) := by
 have hb : big = 1000000000 := rfl
 unfold EW
 have := Hj (fun _ e (o : List Int) => if lz b e = true then o else o ++ [e]) (fun pre o => o.length ≤ pre.length) k (l := a) ha (fun n i o => rB N a b (fun y => k y) n i o) (fun n pre e rest o h hi h1 h2 => ⟨?_, by split <;> simp <;> omega⟩) (fun n o hi => ?_) a [] [] N rfl (by simp) (by omega)
 ·rw [jt (fun (o : List Int) e => if lz b e = true then o else o ++ [e])] at this
  refine Eq.trans this ?_
  congr 1
  have : ∀ (l o : List Int), l.foldl (fun (o : List Int) e => if lz b e = true then o else o ++ [e]) o = o ++ l.filter fun x => !lz b x := by
   intro l
   induction l with
   | nil => intro o; simp
   | cons x r ih =>
    intro o
    simp only [List.foldl_cons, ih, List.filter_cons]
    cases lz b x <;> simp
  simpa using this a []
 ·have : pre.length ≤ a.length := by rw [h]; simp
  simp only [rB, tG, h1, h2, if_true, Option.bind_some]
  rw [xh _ _ _ hN hb']
  by_cases hh : lz b e = true
  ·rw [if_neg (by rw [show (b.any fun x => x == e) = true from hh]; simp), if_pos hh]
  ·rw [if_pos (by rw [show (b.any fun x => x == e) = false from Bool.eq_false_iff.2 hh]; rfl), if_neg hh, if_pos (by simp [ak]; omega)]
 ·simp only [rB, tG]
  simp
theorem RH (a b : List Int) (k : List Int → Option R) (hN : big ≤ N) (ha : a.length < big) (hb' : b.length < big) : HF N a b k = k (a.filter (lz b)) := by
 unfold HF
 have h1 := List.length_filter_le (fun x => !lz b x) a
 rw [Mn _ _ _ hN ha hb', Mn _ _ _ hN ha (by omega)]
 congr 1
 apply List.filter_congr
 intro x hx
 rw [Bool.eq_iff_iff]
 constructor
 ·intro h
  rcases Bool.eq_false_or_eq_true (lz b x) with h' | h'
  ·exact h'
  ·exfalso
   have : x ∈ a.filter fun x => !lz b x := List.mem_filter.2 ⟨hx, by simp [h']⟩
   rw [kb.2 this] at h
   simp at h
 ·intro h
  have : ¬ lz (a.filter fun x => !lz b x) x = true := by
   rw [kb, List.mem_filter]
   rintro ⟨_, h2⟩
   simp [h] at h2
  simpa using this
theorem Pf (nd : List Node) (q : Int) (k : List Int → Option R) (hN : big ≤ N) (hl : nd.length ≤ 64) (h0 : 0 ≤ q) (h1 : q < nd.length) : By N nd q k = k (kI q 0 nd) := by
 have hb : big = 1000000000 := rfl
 unfold By
 have his : ∀ kk : Bool → Option Bool, vV N nd q kk = kk true := by
  intro kk
  unfold vV
  have d1 : decide (q ≥ 0) = true := by simpa using h0
  have d2 : decide (q < ((nd.length : Nat) : Int)) = true := by simpa using h1
  simp [d1, d2, ifB]
 have key : ∀ (rest pre : List Node) (n : Nat) (out : List Int), nd = pre ++ rest → rest.length < n → out.length ≤ pre.length → nV N nd q (fun y => k y) n pre.length out = k (out ++ kI q pre.length rest) := by
  intro rest
  induction rest with
  | nil =>
   intro pre n out h hn ho
   obtain ⟨n, rfl⟩ : ∃ m, n = m + 1 := ⟨n - 1, by omega⟩
   have : nd = pre := by simpa using h
   subst this
   simp [nV, pT, kI, ifB]
  | cons e r ih =>
   intro pre n out h hn ho
   obtain ⟨n, rfl⟩ : ∃ m, n = m + 1 := ⟨n - 1, by omega⟩
   have hlen : nd.length = pre.length + (r.length + 1) := by rw [h]; simp
   have hat : at? nd pre.length = some e := bf (by omega) (by rw [h]; simp)
   have hd : decide (((pre.length : Nat) : Int) < ((nd.length : Nat) : Int)) = true := by simp; omega
   have hr : IntKind.wrap .i64 (((pre.length : Nat) : Int) + 1) = (((pre ++ [e]).length : Nat) : Int) := by rw [wr _ (by omega) (by omega)]; simp
   have hr' : (((pre ++ [e]).length : Nat) : Int) = ((pre.length : Nat) : Int) + 1 := by simp
   simp only [nV, pT, hd, his, hat, ax, Bool.true_and, Option.bind_some, if_true, hr, kI]
   by_cases hp : (e.Parent == q) = true
   ·rw [if_pos hp, if_pos hp, if_pos (by simp [ak]; omega), ih (pre ++ [e]) n _ (by rw [h]; simp) (by simp at hn; omega) (by simp; omega), hr']
    simp
   ·rw [if_neg hp, if_neg hp, ih (pre ++ [e]) n _ (by rw [h]; simp) (by simp at hn; omega) (by simp; omega), hr']
    simp
 have := key nd [] N [] rfl (by omega) (by simp)
 simpa using this
theorem Ej (nd : List Node) (q : Int) (k : List Int → Option R) (hN : big ≤ N) (hl : Pe nd) (h0 : 0 ≤ q) (h1 : q < nd.length) : sC N nd q k = k (kI q 0 nd) := by
 have hb : big = 1000000000 := rfl
 unfold sC
 have hkl := Kv q nd 0
 rw [Pf nd q _ hN hl.1 h0 h1]
 have hl1 := hl.1
 have := Hj (fun _ e (o : List Int) => o ++ [e]) (fun pre o => o.length ≤ pre.length) k (l := kI q 0 nd) (by omega) (fun n i o => ku N nd (kI q 0 nd) (fun y => k y) n i o) (fun n pre e rest o h hi h1 h2 => ⟨?_, by simp; omega⟩) (fun n o hi => ?_) (kI q 0 nd) [] [] N rfl (by simp) (by omega)
 ·rw [jt (fun (o : List Int) e => o ++ [e])] at this
  refine Eq.trans this ?_
  congr 1
  have : ∀ (l o : List Int), l.foldl (fun (o : List Int) e => o ++ [e]) o = o ++ l := by
   intro l
   induction l with
   | nil => intro o; simp
   | cons x r ih => intro o; simp only [List.foldl_cons, ih]; simp
  simpa using this (kI q 0 nd) []
 ·have hm : e ∈ kI q 0 nd := by rw [h]; simp
  obtain ⟨x, x1, x2, _⟩ := Pd q nd 0 e hm
  have x2' : nd[e.toNat]? = some x := by simpa using x2
  have hp : pre.length ≤ (kI q 0 nd).length := by rw [h]; simp
  have hk := (hl.2 _ _ x2').1
  simp only [ku, na, h1, h2, bf x1 x2', if_true, Option.bind_some]
  rw [if_pos (by simpa using hk), if_pos (by simp [ak]; omega)]
 ·simp only [ku, na]
  simp
theorem Kw {E : Type} (c : E → Bool) : ∀ (l pre : List E), (gP (fun _ q => chk (c q) 1 0) pre l).1 = 0 ↔ l.all c = true
 | [], pre => by simp [gP]
 | e :: r, pre => by
  simp only [gP, cz, List.all_cons, Bool.and_eq_true, Kw c r, sZ (show (1 : Int) ≠ 0 by decide)]
theorem Nm (nd : List Node) (conf : List Int) (k : Bool → Option R) (hN : big ≤ N) (hl : Pe nd) (hcl : conf.length < big) (hs : conf.Pairwise (· < ·)) (hv : ∀ q ∈ conf, 0 ≤ q ∧ q < nd.length) (hp : ∀ q ∈ conf, 0 < q → qe nd q ∈ conf) :
  rC N nd conf k = k (lz conf 0 && conf.all (uC nd conf)) := by
 have hb : big = 1000000000 := rfl
 unfold rC
 rw [xh _ _ _ hN hcl]
 rcases Bool.eq_false_or_eq_true (lz conf 0) with h0 | h0
 rotate_left
 ·rw [show (conf.any fun e => e == 0) = false from h0, h0]; rfl
 rw [show (conf.any fun e => e == 0) = true from h0, h0, Bool.not_true, if_neg (by simp), Bool.true_and]
 have := (uz (l := conf) (fun _ q => chk (uC nd conf q) 1 0) (fun _ _ => aK _ _ (by decide)) (fun _ => True) (fun _ _ => k false) hcl (fun n i => me N nd conf (k true) (fun y => k y) n i) (fun n pre q rest h _ h1 h2 => ⟨?_, fun _ => trivial⟩) (k true) (fun n h _ => ?_) trivial N (by omega)).1
 ·refine Eq.trans this ?_
  by_cases hz : (gP (fun _ q => chk (uC nd conf q) 1 0) [] conf).1 = 0
  ·rw [if_pos hz, (Kw _ _ _).1 hz]
  ·rw [if_neg hz]
   have : conf.all (uC nd conf) = false := by
    rcases Bool.eq_false_or_eq_true (conf.all (uC nd conf)) with h' | h'
    ·exact absurd ((Kw _ _ []).2 h') hz
    ·exact h'
   rw [this]; rfl
 ·have hm : q ∈ conf := by rw [h]; simp
  obtain ⟨v0, v1⟩ := hv q hm
  obtain ⟨x, hx, hx'⟩ := LX v0 v1
  have hxo := hl.2 _ _ hx'
  have hkd : kdI nd q = x.Kind := by unfold kdI; rw [hx']; rfl
  have hpr : qe nd q = x.Parent := by unfold qe; rw [hx']; rfl
  have hkl := Kv q nd 0
  have hl1 := hl.1
  have his : ∀ kk : Bool → Option R, vV N nd q kk = kk true := by
   intro kk
   unfold vV
   have d1 : decide (q ≥ 0) = true := by simpa using v0
   have d2 : decide (q < ((nd.length : Nat) : Int)) = true := by simpa using v1
   simp [d1, d2, ifB]
  simp only [me, oM, h1, h2, if_true, Option.bind_some]
  rw [his]
  -- the order
  have hord : (ifB (decide (((pre.length : Nat) : Int) > 0)) true ((at? conf (IntKind.wrap .i64 (((pre.length : Nat) : Int) - 1))).bind fun e8 => some (decide (q ≤ e8))) (some false)) = some false := by
   by_cases hpz : pre.length = 0
   ·have : decide (((pre.length : Nat) : Int) > 0) = false := by simp [hpz]
    rw [this]; simp [ifB]
   ·have hlen : pre.length ≤ conf.length := by rw [h]; simp
    rw [wr _ (by omega) (by omega)]
    obtain ⟨y, hy⟩ : ∃ y, pre[pre.length - 1]? = some y := ⟨_, List.getElem?_eq_getElem (by omega)⟩
    have hy2 : conf[(((pre.length : Nat) : Int) - 1).toNat]? = some y := by
     rw [show (((pre.length : Nat) : Int) - 1).toNat = pre.length - 1 by omega, h, List.getElem?_append_left (by omega)]; exact hy
    have hlt : y < q := by
     rw [h, List.pairwise_append] at hs
     exact hs.2.2 y (List.mem_of_getElem? hy) q (by simp)
    have : decide (q ≤ y) = false := by simp; omega
    rw [bf (by omega) hy2, Option.bind_some, this]
    simp [ifB]
  rw [hord]
  have hk3 : decide (x.Kind ≤ 3) = true := by simpa using hxo.1
  simp only [hx, hk3, Bool.not_true, aZ, Option.bind_some, Bool.or_self]
  have hpar : (ifB (decide (q > 0)) true (sB N conf x.Parent (fun (r17 : Bool) => some (!r17))) (some false)) = some false := by
   by_cases hq0 : 0 < q
   ·have := hp q hm hq0
    rw [hpr] at this
    rw [xh _ _ _ hN hcl, show (conf.any fun e => e == x.Parent) = true from kb.2 this]
    simp [ifB]
   ·have : decide (q > 0) = false := by simp; omega
    rw [this]; simp [ifB]
  rw [hpar]
  simp only [Option.bind_some, Bool.false_eq_true, if_false]
  rw [Ej nd q _ hN hl v0 v1, RH _ _ _ hN (by omega) hcl]
  simp only [Ej nd q _ hN hl v0 v1, ax, aZ, Option.bind_some]
  unfold uC
  rw [hkd]
  generalize ((x.Kind == 2) && ((((kI q 0 nd).filter (lz conf)).length : Int) != 1)) = b1
  generalize ((x.Kind == 3) && ((((kI q 0 nd).filter (lz conf)).length : Int) != (((kI q 0 nd).length : Nat) : Int))) = b2
  cases b1 <;> cases b2 <;> simp [chk, kf]
 ·simp only [me, oM, h]
  simp
theorem DJ (nd : List Node) (hl : Pe nd) : ∀ (m : Nat) (k : Int), k < m → k < nd.length → ∀ q ∈ chn (qe nd) m k, (0 ≤ q ∧ q < nd.length) ∧ (0 < q → qe nd q ∈ chn (qe nd) m k) := by
 intro m
 induction m with
 | zero => intro k _ _ q hq; simp [chn] at hq
 | succ m ih =>
  intro k hk hkl q hq
  unfold chn at hq ⊢
  split at hq
  ·simp at hq
  ·rename_i hk0
   rw [if_neg hk0]
   obtain ⟨x, _, hx'⟩ := LX (show 0 ≤ k by omega) hkl
   obtain ⟨_, x2, x3, x4⟩ := hl.2 _ _ hx'
   have hpr : qe nd k = x.Parent := by unfold qe; rw [hx']; rfl
   have hlt : qe nd k < k := by rw [hpr]; omega
   rcases List.mem_cons.1 hq with rfl | hq
   ·refine ⟨⟨by omega, hkl⟩, fun h0 => ?_⟩
    right
    -- the parent begins the rest
    by_cases hp0 : qe nd q < 0
    ·exfalso
     have := x4 (by omega)
     omega
    ·cases m with
     | zero => omega
     | succ m => unfold chn; rw [if_neg hp0]; exact List.mem_cons_self ..
   ·obtain ⟨h1, h2⟩ := ih (qe nd k) (by omega) (by omega) q hq
    exact ⟨h1, fun h0 => List.mem_cons_of_mem _ (h2 h0)⟩
theorem zD {nd : List Node} {pre : List Int} {a : Int} (h : IA nd pre a = false) : 0 ≤ a ∧ a < nd.length ∧ kdI nd a = 1 ∧ a ∉ pre := by
 unfold IA at h
 simp only [Bool.or_eq_false_iff, Bool.not_eq_false', Bool.and_eq_true, decide_eq_true_eq, bne_eq_false_iff_eq] at h
 exact ⟨h.1.1.1, h.1.1.2, h.1.2, fun hc => by rw [kb.2 hc] at h; simp at h⟩
theorem Hm (nd : List Node) : ∀ (l pre : List Int), okA nd pre l = true → ∀ a ∈ l, 0 ≤ a ∧ a < nd.length ∧ kdI nd a = 1
 | x :: r, pre, h, a, ha => by
  simp only [okA, Bool.and_eq_true, Bool.not_eq_true'] at h
  rcases List.mem_cons.1 ha with rfl | ha
  ·obtain ⟨h1, h2, h3, _⟩ := zD h.1; exact ⟨h1, h2, h3⟩
  ·exact Hm nd r _ h.2 a ha
theorem Pg (nd : List Node) (atoms : List Int) (k : List Int → Bool → Option R) (hN : big ≤ N) (hl : Pe nd) (ha : atoms.length ≤ 16386) : ∃ L, sD N nd atoms k = k L (Ei nd atoms) := by
 have hb : big = 1000000000 := rfl
 have hl1 := hl.1
 unfold sD
 -- the chain of parents
 have l2 : ∀ (kp : List Int → Option R) x1 x2 (m n : Nat) (q : Int) (all : List Int), q < m → q < nd.length → all.length < 10000000 + (64 - m) → m ≤ 64 → m + 1 < n → lq N nd x1 x2 kp n q all = kp (all ++ chn (qe nd) m q) := by
  intro kp x1 x2 m
  induction m with
  | zero =>
   intro n q all hq _ _ _ hn
   obtain ⟨n, rfl⟩ : ∃ w, n = w + 1 := ⟨n - 1, by omega⟩
   have : decide (q ≥ 0) = false := by simp; omega
   simp [lq, mP, this, chn]
  | succ m ih =>
   intro n q all hq hqn hal hm hn
   obtain ⟨n, rfl⟩ : ∃ w, n = w + 1 := ⟨n - 1, by omega⟩
   by_cases h0 : q < 0
   ·have : decide (q ≥ 0) = false := by simp; omega
    simp [lq, mP, this, chn, h0]
   ·have hd : decide (q ≥ 0) = true := by simp; omega
    obtain ⟨x, hx, hx'⟩ := LX (show 0 ≤ q by omega) hqn
    obtain ⟨_, x2, x3, _⟩ := hl.2 _ _ hx'
    have hpr : qe nd q = x.Parent := by unfold qe; rw [hx']; rfl
    simp only [lq, mP, hd, hx, if_true, Option.bind_some]
    rw [if_pos (by simp [ak]; omega), ih n x.Parent _ (by omega) (by omega) (by simp; omega) (by omega) (by omega)]
    simp [chn, h0, hpr]
 have hal : ∀ l : List Int, (pj nd l).length ≤ 64 * l.length := by
  intro l
  induction l with
  | nil => simp [pj]
  | cons x r ih =>
   have := Mm (qe nd) 64 x
   unfold pj at ih ⊢
   simp only [List.flatMap_cons, List.length_append, List.length_cons]; omega
 have fin : okA nd [] atoms = true → ∃ L, GC N (pj nd atoms) (fun (r41 : List Int) =>
 rC N nd r41 (fun (r42 : Bool) =>
 if (!r42) = true then
  (k ([] : List Int) false)
 else
  (k r41 true))) = k L (Ei nd atoms) := by
  intro hok
  have hlen := hal atoms
  have hmem : ∀ q ∈ ofL (pj nd atoms), ∃ a ∈ atoms, q ∈ chn (qe nd) 64 a := by
   intro q hq
   have := ((AD _ _ _ _).1 hq).2
   unfold pj at this
   exact List.mem_flatMap.1 this
  have hcl := Ml (pj nd atoms) 128 0
  rw [Tj _ _ hN (by omega), Nm nd (ofL (pj nd atoms)) _ hN hl (by unfold ofL; omega) (show (ofL (pj nd atoms)).Pairwise (· < ·) from Eh _ _ _) (fun q hq => ?_) (fun q hq h0 => ?_)]
  ·unfold Ei
   rw [hok, Bool.true_and]
   rcases Bool.eq_false_or_eq_true (lz (ofL (pj nd atoms)) 0 && (ofL (pj nd atoms)).all (uC nd (ofL (pj nd atoms)))) with h' | h'
   ·rw [h']; exact ⟨_, rfl⟩
   ·rw [h']; exact ⟨[], rfl⟩
  ·obtain ⟨a, ha1, ha2⟩ := hmem q hq
   obtain ⟨a0, a1, _⟩ := Hm nd atoms [] hok a ha1
   exact (DJ nd hl 64 a (by omega) a1 q ha2).1
  ·obtain ⟨a, ha1, ha2⟩ := hmem q hq
   obtain ⟨a0, a1, _⟩ := Hm nd atoms [] hok a ha1
   have h3 := (DJ nd hl 64 a (by omega) a1 q ha2).2 h0
   have h4 := (DJ nd hl 64 a (by omega) a1 _ h3).1
   refine (AD _ _ _ _).2 ⟨⟨h4.1, by omega⟩, ?_⟩
   unfold pj
   exact List.mem_flatMap.2 ⟨a, ha1, h3⟩
 have key : ∀ (rest pre : List Int) (n : Nat), atoms = pre ++ rest → rest.length < n → (okA nd pre rest = true → okA nd [] atoms = true) →
   ∃ L, nW N nd atoms (fun (y39 : List Int) =>
 GC N y39 (fun (r41 : List Int) =>
 rC N nd r41 (fun (r42 : Bool) =>
 if (!r42) = true then
  (k ([] : List Int) false)
 else
  (k r41 true))))
  (fun (y40 : Bool) =>
 k ([] : List Int) y40) n pre.length (pj nd pre) = k L (okA nd pre rest && (lz (ofL (pj nd atoms)) 0 && (ofL (pj nd atoms)).all (uC nd (ofL (pj nd atoms))))) := by
  intro rest
  induction rest with
  | nil =>
   intro pre n h hn hok
   obtain ⟨n, rfl⟩ : ∃ w, n = w + 1 := ⟨n - 1, by omega⟩
   have : atoms = pre := by simpa using h
   subst this
   obtain ⟨L, hL⟩ := fin (hok rfl)
   refine ⟨L, ?_⟩
   simp only [nW, pU]
   simp only [Int.lt_irrefl, decide_false, Bool.false_eq_true, if_false]
   rw [hL]
   unfold Ei
   rw [hok rfl]; simp [okA]
  | cons a r ih =>
   intro pre n h hn hok
   obtain ⟨n, rfl⟩ : ∃ w, n = w + 1 := ⟨n - 1, by omega⟩
   have hlen : atoms.length = pre.length + (r.length + 1) := by rw [h]; simp
   have hat : at? atoms pre.length = some a := bf (by omega) (by rw [h]; simp)
   have hd : decide (((pre.length : Nat) : Int) < ((atoms.length : Nat) : Int)) = true := by simp; omega
   have hr : IntKind.wrap .i64 (((pre.length : Nat) : Int) + 1) = (((pre ++ [a]).length : Nat) : Int) := by rw [wr _ (by omega) (by omega)]; simp
   have hap := hal pre
   have hp : pre.length ≤ atoms.length := by omega
   simp only [nW, pU, hd, hat, if_true, Option.bind_some]
   unfold vV
   simp only [ax, Option.bind_some]
   have hbad : (ifB (!(decide (a ≥ 0) && decide (a < ((nd.length : Nat) : Int)))) false ((at? nd a).bind fun e32 => some (e32.Kind != 1)) (some true)).bind (fun c33 => ifB c33 false (if (0 : Int) ≤ 0 ∧ 0 ≤ ((pre.length : Nat) : Int) ∧ ((pre.length : Nat) : Int) ≤ ((atoms.length : Nat) : Int) then (sB N ((atoms.take ((pre.length : Nat) : Int).toNat).drop (Int.toNat 0)) a (fun (r35 : Bool) => some r35)) else none) (some true)) = some (IA nd pre a) := by
    rw [if_pos (g01 hp), jZ h, xh _ _ _ hN (by omega)]
    unfold IA
    by_cases hv : 0 ≤ a ∧ a < ((nd.length : Nat) : Int)
    ·obtain ⟨x, hx, hx'⟩ := LX hv.1 hv.2
     have hkd : kdI nd a = x.Kind := by unfold kdI; rw [hx']; rfl
     have d1 : decide (a ≥ 0) = true := by simpa using hv.1
     have d2 : decide (a < ((nd.length : Nat) : Int)) = true := by simpa using hv.2
     rw [d1, d2, hx, hkd]
     simp only [Bool.and_self, Bool.not_true, Option.bind_some, aZ, Bool.false_or]
     rfl
    ·have hv' : (decide (a ≥ 0) && decide (a < ((nd.length : Nat) : Int))) = false := by
      rw [Bool.eq_false_iff]; intro hc; simp only [Bool.and_eq_true, decide_eq_true_eq] at hc; exact hv hc
     rw [hv']
     simp [ifB]
   simp only [okA]
   have step : ∀ (X : Bool → Option R), ((ifB (!(decide (a ≥ 0) && decide (a < ((nd.length : Nat) : Int)))) false ((at? nd a).bind fun e32 => some (e32.Kind != 1)) (some true)).bind fun c33 => (ifB c33 false (if (0 : Int) ≤ 0 ∧ 0 ≤ ((pre.length : Nat) : Int) ∧ ((pre.length : Nat) : Int) ≤ ((atoms.length : Nat) : Int) then (sB N ((atoms.take ((pre.length : Nat) : Int).toNat).drop (Int.toNat 0)) a (fun (r35 : Bool) => some r35)) else none) (some true)).bind X) = X (IA nd pre a) := by
    intro X
    have := congrArg (fun o => Option.bind o X) hbad
    simp only [Option.bind_some] at this
    rw [← this, Option.bind_assoc]
   rw [step]
   rcases Bool.eq_false_or_eq_true (IA nd pre a) with hba | hba
   ·rw [if_pos hba, hba]
    exact ⟨[], rfl⟩
   ·obtain ⟨b0, b1, b2, b3⟩ := zD hba
    rw [if_neg (by simp [hba]), l2 _ _ _ 64 N a _ (by omega) b1 (by omega) (by omega) (by omega), hr, hba]
    have hall : pj nd pre ++ chn (qe nd) 64 a = pj nd (pre ++ [a]) := by unfold pj; simp
    rw [hall]
    obtain ⟨L, hL⟩ := ih (pre ++ [a]) n (by rw [h]; simp) (by simp at hn; omega) (fun hq => hok (by simp [okA, hba, hq]))
    exact ⟨L, by simpa using hL⟩
 obtain ⟨L, hL⟩ := key atoms [] N rfl (by omega) (fun h => h)
 exact ⟨L, by simpa [Ei, pj] using hL⟩
end
theorem th (up i : Int) (s : State) (r : List State) : nL up i (s :: r) = (i, up, s) :: (nL i (i + 1) s.Kids ++ nL up (i + 1 + (flL s.Kids).length) r) := by
 simp only [nL, Hl, List.cons_append]
 congr 3
 rw [bD, List.length_cons]; omega
theorem DK (s : State) : ((flS s).length : Int) = 1 + (flL s.Kids).length := by rw [bD, List.length_cons]; omega
def iota : Int → Nat → List Int
 | _, 0 => []
 | i, n + 1 => i :: iota (i + 1) n
theorem Ph (i : Int) (m n : Nat) : iota i (m + n) = iota i m ++ iota (i + m) n := by
 induction m generalizing i with
 | zero => simp [iota]
 | succ m ih =>
  rw [show m + 1 + n = (m + n) + 1 by omega]
  simp only [iota, ih, List.cons_append]
  rw [show i + 1 + (m : Int) = i + ((m + 1 : Nat) : Int) by omega]
theorem oe {P : List State → Prop} (h0 : P []) (h1 : ∀ s r, P s.Kids → P r → P (s :: r)) (l : List State) : P l := by
 have : ∀ (n : Nat) (l : List State), (flL l).length ≤ n → P l := by
  intro n
  induction n with
  | zero =>
   intro l hl
   cases l with
   | nil => exact h0
   | cons s r => simp only [flL, bD, List.length_append, List.length_cons] at hl; omega
  | succ n ih =>
   intro l hl
   cases l with
   | nil => exact h0
   | cons s r =>
    simp only [flL, bD, List.length_append, List.length_cons] at hl
    exact h1 s r (ih _ (by omega)) (ih _ (by omega))
 exact this _ l (Nat.le_refl _)
theorem Ek (l : List State) : ∀ (up i : Int), (nL up i l).map (·.1) = iota i (flL l).length := by
 induction l using oe with
 | h0 => intro up i; simp [nL, flL, iota]
 | h1 s r hk hr =>
  intro up i
  rw [th]
  simp only [List.map_cons, List.map_append, hk, hr]
  simp only [flL, bD, List.length_append, List.length_cons]
  rw [show (flL s.Kids).length + 1 + (flL r).length = ((flL s.Kids).length + (flL r).length) + 1 by omega]
  simp only [iota]
  rw [Ph]
theorem eZ (l : List State) : ∀ (up i : Int), ∀ k p s, (k, p, s) ∈ nL up i l → (i ≤ k ∧ k < i + (flL l).length) ∧ (p = up ∨ (i ≤ p ∧ p < k)) ∧ k + (flS s).length ≤ i + (flL l).length := by
 induction l using oe with
 | h0 => intro up i k p s h; simp [nL] at h
 | h1 s0 r hk hr =>
  intro up i k p s h
  rw [th, List.mem_cons, List.mem_append] at h
  have e1 := DK s0
  have e2 : ((flL (s0 :: r)).length : Int) = (flS s0).length + (flL r).length := by simp [flL]
  rcases h with h | h | h
  ·cases h; omega
  ·have := hk i (i + 1) k p s h
   omega
  ·have := hr up (i + 1 + (flL s0.Kids).length) k p s h
   omega
theorem Pj (l : List State) : ∀ (up i : Int), up < i → ((nL up i l).filter fun x => x.2.1 == up).map (·.2.2) = l := by
 induction l with
 | nil => intro up i _; simp [nL]
 | cons s r ih =>
  intro up i hu
  rw [th, List.filter_cons]
  have hn : (nL i (i + 1) s.Kids).filter (fun x => x.2.1 == up) = [] := by
   rw [List.filter_eq_nil_iff]
   rintro ⟨k, p, x⟩ hx hc
   have := eZ _ _ _ _ _ _ hx
   simp only [beq_iff_eq] at hc
   omega
  rw [if_pos (by simp), List.filter_append, hn, List.nil_append, List.map_cons, ih up _ (by omega)]
theorem RI (l : List State) : ∀ (up i : Int), up < i → ∀ q p s, (q, p, s) ∈ nL up i l → ((nL up i l).filter fun x => x.2.1 == q).map (·.2.2) = s.Kids := by
 induction l using oe with
 | h0 => intro up i _ q p s h; simp [nL] at h
 | h1 s0 r hk hr =>
  intro up i hu q p s h
  rw [th, List.mem_cons, List.mem_append] at h
  rw [th, List.filter_cons, List.filter_append]
  have nof : ∀ (up' i' : Int) (l' : List State), (∀ k p s, (k, p, s) ∈ nL up' i' l' → p ≠ q) → (nL up' i' l').filter (fun x => x.2.1 == q) = [] := by
   intro up' i' l' h'
   rw [List.filter_eq_nil_iff]
   rintro ⟨k, p, x⟩ hx hc
   simp only [beq_iff_eq] at hc
   exact h' _ _ _ hx hc
  rcases h with h | h | h
  ·cases h
   rw [if_neg (by simp; omega), nof up _ r (fun k p s hx => by have := eZ _ _ _ _ _ _ hx; omega), List.append_nil]
   exact Pj _ _ _ (by omega)
  ·have h1 := eZ _ _ _ _ _ _ h
   rw [if_neg (by simp; omega), nof up _ r (fun k p s hx => by have := eZ _ _ _ _ _ _ hx; omega), List.append_nil]
   exact hk i (i + 1) (by omega) q p s h
  ·have h1 := eZ _ _ _ _ _ _ h
   rw [if_neg (by simp; omega), nof i _ s0.Kids (fun k p s hx => by have := eZ _ _ _ _ _ _ hx; omega), List.nil_append]
   exact hr up _ (by omega) q p s h
theorem Tl (l : List State) : ∀ (up i : Int), up < i → ∀ q p s, (q, p, s) ∈ nL up i l → ∀ k p' x, (k, p', x) ∈ nL up i l → k ≠ q → ((q ≤ k ∧ k < q + (flS s).length) ↔ (q ≤ p' ∧ p' < q + (flS s).length)) := by
 induction l using oe with
 | h0 => intro up i _ q p s h; simp [nL] at h
 | h1 s0 r hk hr =>
  intro up i hu q p s h k p' x h' hne
  rw [th, List.mem_cons, List.mem_append] at h h'
  have e1 := DK s0
  rcases h with h | h | h
  ·cases h
   rcases h' with h' | h' | h'
   ·cases h'; omega
   ·have := eZ _ _ _ _ _ _ h'; omega
   ·have := eZ _ _ _ _ _ _ h'; omega
  ·have g := eZ _ _ _ _ _ _ h
   rcases h' with h' | h' | h'
   ·cases h'; omega
   ·exact hk i (i + 1) (by omega) q p s h k p' x h' hne
   ·have := eZ _ _ _ _ _ _ h'; omega
  ·have g := eZ _ _ _ _ _ _ h
   rcases h' with h' | h' | h'
   ·cases h'; omega
   ·have := eZ _ _ _ _ _ _ h'; omega
   ·exact hr up _ (by omega) q p s h k p' x h' hne
theorem Tm (l : List State) : ∀ (up i : Int), ∀ q p s, (q, p, s) ∈ nL up i l → (∀ k p' x, (k, p', x) ∈ nL up i l → q ≤ k → k < q + (flS s).length → x ∈ flS s) ∧ (∀ x ∈ flS s, ∃ k p', (k, p', x) ∈ nL up i l ∧ q ≤ k ∧ k < q + (flS s).length) := by
 induction l using oe with
 | h0 => intro up i q p s h; simp [nL] at h
 | h1 s0 r hk hr =>
  intro up i q p s h
  rw [th, List.mem_cons, List.mem_append] at h
  have e1 := DK s0
  rw [th]
  simp only [List.mem_cons, List.mem_append]
  rcases h with h | h | h
  ·cases h
   refine ⟨fun k p' x h' g1 g2 => ?_, fun x hx => ?_⟩
   ·rw [bD]
    rcases h' with h' | h' | h'
    ·cases h'; exact List.mem_cons_self ..
    ·refine List.mem_cons_of_mem _ ?_
     rw [← kS s0.Kids i (i + 1)]
     exact List.mem_map.2 ⟨_, h', rfl⟩
    ·have := eZ _ _ _ _ _ _ h'; omega
   ·rw [bD] at hx
    rcases List.mem_cons.1 hx with rfl | hx
    ·exact ⟨i, up, .inl rfl, by omega, by omega⟩
    ·rw [← kS s0.Kids i (i + 1)] at hx
     obtain ⟨⟨k, p', y⟩, h1, rfl⟩ := List.mem_map.1 hx
     have := eZ _ _ _ _ _ _ h1
     exact ⟨k, p', .inr (.inl h1), by omega, by omega⟩
  ·have g := eZ _ _ _ _ _ _ h
   obtain ⟨a1, a2⟩ := hk i (i + 1) q p s h
   refine ⟨fun k p' x h' g1 g2 => ?_, fun x hx => ?_⟩
   ·rcases h' with h' | h' | h'
    ·cases h'; omega
    ·exact a1 k p' x h' g1 g2
    ·have := eZ _ _ _ _ _ _ h'; omega
   ·obtain ⟨k, p', b1, b2⟩ := a2 x hx
    exact ⟨k, p', .inr (.inl b1), b2⟩
  ·have g := eZ _ _ _ _ _ _ h
   obtain ⟨a1, a2⟩ := hr up _ q p s h
   refine ⟨fun k p' x h' g1 g2 => ?_, fun x hx => ?_⟩
   ·rcases h' with h' | h' | h'
    ·cases h'; omega
    ·have := eZ _ _ _ _ _ _ h'; omega
    ·exact a1 k p' x h' g1 g2
   ·obtain ⟨k, p', b1, b2⟩ := a2 x hx
    exact ⟨k, p', .inr (.inr b1), b2⟩
theorem AE (n : Nat) : ∀ (i : Int) (j : Nat), j < n → (iota i n)[j]? = some (i + j) := by
 induction n with
 | zero => intro i j h; omega
 | succ n ih =>
  intro i j h
  cases j with
  | zero => simp [iota]
  | succ j =>
   simp only [iota, List.getElem?_cons_succ]
   rw [ih (i + 1) j (by omega)]
   congr 1; omega
theorem AF {c : Chart} {nd : List Node} (h : nd.map tri = Tn c) {k p : Int} {s : State} (hm : (k, p, s) ∈ nL 0 1 c.States) : ∃ y, nd[k.toNat]? = some y ∧ y.Kind = kG s ∧ y.Parent = p ∧ y.Name = s.Name ∧ 1 ≤ k := by
 obtain ⟨j, hj⟩ := List.getElem?_of_mem hm
 have hlt : j < (flL c.States).length := by
  have := (List.getElem?_eq_some_iff.1 hj).1
  rwa [rJ] at this
 have h1 : ((nL 0 1 c.States).map (·.1))[j]? = some k := by rw [List.getElem?_map, hj]; rfl
 rw [Ek, AE _ _ _ hlt] at h1
 have hk : k = 1 + j := (Option.some.inj h1).symm
 have h2 : (nd.map tri)[j + 1]? = some (AB (k, p, s)) := by
  rw [h]; unfold Tn
  rw [List.getElem?_cons_succ, List.getElem?_map, hj]; rfl
 rw [List.getElem?_map] at h2
 have ht : k.toNat = j + 1 := by omega
 rw [ht]
 cases hn : nd[j + 1]? with
 | none => rw [hn] at h2; cases h2
 | some y =>
  rw [hn] at h2
  have h3 : tri y = AB (k, p, s) := Option.some.inj h2
  unfold tri AB at h3
  simp only [Prod.mk.injEq] at h3
  exact ⟨y, rfl, h3.1, h3.2.1, h3.2.2, by omega⟩
theorem xq {c : Chart} {nd : List Node} (h : nd.map tri = Tn c) {k : Int} (h1 : 1 ≤ k) (h2 : k < nd.length) : ∃ p s, (k, p, s) ∈ nL 0 1 c.States := by
 have hl : nd.length = 1 + (flL c.States).length := by
  have := congrArg List.length h
  simp only [List.length_map, Tn, List.length_cons, rJ] at this
  omega
 have hj : k.toNat - 1 < (nL 0 1 c.States).length := by rw [rJ]; omega
 refine ⟨((nL 0 1 c.States)[k.toNat - 1]).2.1, ((nL 0 1 c.States)[k.toNat - 1]).2.2, ?_⟩
 have hm := List.getElem_mem hj
 have hf : ((nL 0 1 c.States).map (·.1))[k.toNat - 1]? = some ((nL 0 1 c.States)[k.toNat - 1]).1 := by
  rw [List.getElem?_map, List.getElem?_eq_getElem hj]; rfl
 rw [Ek, AE _ _ _ (by rw [rJ] at hj; exact hj)] at hf
 have : ((nL 0 1 c.States)[k.toNat - 1]).1 = k := by have := Option.some.inj hf; omega
 have e : (k, ((nL 0 1 c.States)[k.toNat - 1]).2.1, ((nL 0 1 c.States)[k.toNat - 1]).2.2) = (nL 0 1 c.States)[k.toNat - 1] := by
  refine Prod.ext ?_ rfl
  exact this.symm
 rw [e]; exact hm
theorem Pk (q : Int) : ∀ (rest : List Node) (M : List (Int × Int × State)) (i : Int), rest.map tri = M.map AB → M.map (·.1) = iota i M.length → kI q i rest = (M.filter fun x => x.2.1 == q).map (·.1)
 | [], [], i, _, _ => by simp [kI]
 | [], _ :: _, i, h, _ => by simp at h
 | _ :: _, [], i, h, _ => by simp at h
 | y :: r, x :: M, i, h, h2 => by
  simp only [List.map_cons, List.cons.injEq] at h
  simp only [List.map_cons, List.length_cons, iota, List.cons.injEq] at h2
  have ih := Pk q r M (i + 1) h.2 h2.2
  have hp : y.Parent = x.2.1 := by have := h.1; unfold tri AB at this; simp only [Prod.mk.injEq] at this; exact this.2.1
  simp only [kI, ih, List.filter_cons, hp]
  split
  ·simp [h2.1]
  ·simp
theorem UA {c : Chart} {nd : List Node} (h : nd.map tri = Tn c) {q : Int} (hq : 0 ≤ q) : kI q 0 nd = ((nL 0 1 c.States).filter fun x => x.2.1 == q).map (·.1) := by
 cases nd with
 | nil => simp [Tn] at h
 | cons y r =>
  simp only [List.map_cons, Tn, List.cons.injEq] at h
  have hp : y.Parent = -1 := by have := h.1; unfold tri at this; simp only [Prod.mk.injEq] at this; exact this.2.1
  have hne : ¬ (y.Parent == q) = true := by rw [hp]; simp; omega
  simp only [kI, if_neg hne, List.nil_append]
  exact Pk q r _ (0 + 1) h.2 (by rw [Ek, rJ]; rfl)
def act (set : List (List UInt8)) (s : State) : Bool := !(hasN set s == 0)
def cS (set : List (List UInt8)) (s : State) : Prop := (s.Kids.length = 0 → hasN set s = 1) ∧ (s.Kids.length ≠ 0 → s.Kind = 2 → s.Kids.all (act set) = true) ∧ (s.Kids.length ≠ 0 → s.Kind ≠ 2 → (s.Kids.filter (act set)).length = 1)
section
variable (set : List (List UInt8))
theorem UB (l : List State) : ∀ sum so, tN true set l sum so = if l.all (ok1 set) = true then (sum + ly set l, true) else (0, false) := by
 induction l with
 | nil => intro sum so; simp [tN, ly]
 | cons s r ih =>
  intro sum so
  simp only [tN, Bool.not_true, Bool.and_false, Bool.false_eq_true, if_false, List.all_cons, ly]
  rcases Bool.eq_false_or_eq_true (ok1 set s) with h | h
  ·simp only [h, if_true, Bool.true_and, ih]; rw [Int.add_assoc]
  ·simp [h]
theorem Tp (l : List State) : ∀ sum so, tN false set l sum so = if l.all (fun s => !act set s || ok1 set s) = true then (sum + ly set l, (so + ((l.filter (act set)).length : Int)) == 1) else (0, false) := by
 induction l with
 | nil => intro sum so; simp [tN, ly]
 | cons s r ih =>
  intro sum so
  simp only [tN, Bool.not_false, Bool.and_true, List.all_cons, ly, List.filter_cons]
  rcases Bool.eq_false_or_eq_true (hasN set s == 0) with h | h
  ·have ha : act set s = false := by unfold act; rw [h]; rfl
   have hz : hasN set s = 0 := by simpa using h
   rw [if_pos h]
   simp only [ih, ha, Bool.not_false, Bool.true_or, Bool.true_and, hz, Bool.false_eq_true, if_false]
   rw [Int.zero_add]
  ·have ha : act set s = true := by unfold act; rw [h]; rfl
   simp only [h, Bool.false_eq_true, if_false, ha, Bool.not_true, Bool.false_or, if_true]
   rcases Bool.eq_false_or_eq_true (ok1 set s) with h1 | h1
   ·simp only [h1, if_true, Bool.true_and, ih, List.length_cons]
    rw [Int.add_assoc, show so + 1 + ((r.filter (act set)).length : Int) = so + (((r.filter (act set)).length + 1 : Nat) : Int) by omega]
   ·simp [h1]
theorem Em (l : List State) : 0 ≤ ly set l := (Ko set l).1
theorem RJ (s : State) : ok1 set s = true → act set s = true := by
 have : ∀ l : List State, ∀ s ∈ l, ok1 set s = true → act set s = true := by
  intro l
  induction l using oe with
  | h0 => intro s h; cases h
  | h1 s0 r hk hr =>
   intro s hs h
   rcases List.mem_cons.1 hs with rfl | hs
   ·rw [Kp] at h
    unfold act
    split at h
    ·simp only [beq_iff_eq] at h; rw [h]; rfl
    ·rename_i hz
     have hp : 0 < ly set s.Kids := by
      have key : ∀ l : List State, (∃ x ∈ l, act set x = true) → 0 < ly set l := by
       intro l
       induction l with
       | nil => rintro ⟨x, hx, _⟩; cases hx
       | cons y r ih =>
        rintro ⟨x, hx, ha⟩
        have h1 := (yB set y).1
        have h2 := Em set r
        simp only [ly]
        rcases List.mem_cons.1 hx with rfl | hx
        ·have : hasN set x ≠ 0 := by unfold act at ha; simpa using ha
         omega
        ·have := ih ⟨x, hx, ha⟩; omega
      apply key
      cases hb : (s.Kind == 2) with
      | true =>
       rw [hb, UB] at h
       split at h
       ·rename_i hall
        obtain ⟨x, hx⟩ := List.exists_mem_of_length_pos (Nat.pos_of_ne_zero hz)
        exact ⟨x, hx, hk x hx (List.all_eq_true.1 hall x hx)⟩
       ·cases h
      | false =>
       rw [hb, Tp] at h
       split at h
       ·simp only [Int.zero_add, beq_iff_eq] at h
        obtain ⟨x, hx⟩ := List.exists_mem_of_length_pos (show 0 < (s.Kids.filter (act set)).length by omega)
        exact ⟨x, (List.mem_filter.1 hx).1, (List.mem_filter.1 hx).2⟩
       ·cases h
     have h1 := (yB set s).1
     have h2 := Av set s
     rw [if_neg hz] at h2
     have : hasN set s ≠ 0 := by omega
     simpa using this
   ·exact hr s hs h
 exact this [s] s (by simp)
theorem IB {s : State} (h : act set s = false) : ∀ x ∈ s.Kids, act set x = false := by
 have h0 : hasN set s = 0 := by unfold act at h; simpa using h
 have h2 := Av set s
 have hz : ly set s.Kids = 0 := by
  have := Em set s.Kids
  split at h2 <;> omega
 have key : ∀ l : List State, ly set l = 0 → ∀ x ∈ l, act set x = false := by
  intro l
  induction l with
  | nil => intro _ x hx; cases hx
  | cons y r ih =>
   intro h x hx
   simp only [ly] at h
   have h1 := (yB set y).1
   have h2 := Em set r
   rcases List.mem_cons.1 hx with rfl | hx
   ·unfold act; rw [show hasN set x = 0 by omega]; rfl
   ·exact ih (by omega) x hx
 exact key _ hz
theorem Hn (s : State) : ok1 set s = true ↔ cS set s ∧ (s.Kids.length = 0 ∨ s.Kids.all (fun x => !act set x || ok1 set x) = true) := by
 rw [Kp]
 unfold cS
 by_cases hz : s.Kids.length = 0
 ·simp [hz]
 ·rw [if_neg hz]
  simp only [hz, false_implies, not_false_eq_true, true_implies, true_and, false_or, ne_eq]
  by_cases hk : s.Kind = 2
  ·have hb : (s.Kind == 2) = true := by simp [hk]
   rw [hb, UB]
   simp only [hk, true_implies, not_true_eq_false, false_implies, and_true]
   constructor
   ·intro h
    split at h
    ·rename_i hall
     refine ⟨List.all_eq_true.2 fun x hx => RJ set x (List.all_eq_true.1 hall x hx), List.all_eq_true.2 fun x hx => ?_⟩
     rw [List.all_eq_true.1 hall x hx]; simp
    ·cases h
   ·rintro ⟨h1, h2⟩
    rw [if_pos]
    refine List.all_eq_true.2 fun x hx => ?_
    have a1 := List.all_eq_true.1 h1 x hx
    have a2 := List.all_eq_true.1 h2 x hx
    simpa [a1] using a2
  ·have hb : (s.Kind == 2) = false := by simp [hk]
   rw [hb, Tp]
   simp only [hk, false_implies, not_false_eq_true, true_implies, true_and, Int.zero_add]
   constructor
   ·intro h
    split at h
    ·rename_i hall
     simp only [beq_iff_eq] at h
     exact ⟨by omega, hall⟩
    ·cases h
   ·rintro ⟨h1, h2⟩
    rw [if_pos h2]
    simp [h1]
theorem RK (l : List State) : l.all (fun x => !act set x || ok1 set x) = true ↔ ∀ s ∈ flL l, act set s = true → cS set s := by
 induction l using oe with
 | h0 => simp [flL]
 | h1 s r hk hr =>
  rw [List.all_cons, Bool.and_eq_true, hr]
  simp only [flL, bD, List.cons_append, List.mem_cons, List.mem_append]
  constructor
  ·rintro ⟨h1, h2⟩ x hx ha
   rcases hx with rfl | hx | hx
   ·rw [ha] at h1
    simp only [Bool.not_true, Bool.false_or] at h1
    exact ((Hn set x).1 h1).1
   ·cases hs : act set s with
    | true =>
     rw [hs] at h1
     simp only [Bool.not_true, Bool.false_or] at h1
     rcases ((Hn set s).1 h1).2 with hz | hz
     ·rw [List.length_eq_zero_iff.1 hz] at hx; simp [flL] at hx
     ·exact hk.1 hz x hx ha
    | false =>
     exfalso
     have key : ∀ l : List State, (∀ y ∈ l, act set y = false) → ∀ y ∈ flL l, act set y = false := by
      intro l
      induction l using oe with
      | h0 => intro _ y hy; simp [flL] at hy
      | h1 s' r' hk' hr' =>
       intro h y hy
       simp only [flL, bD, List.cons_append, List.mem_cons, List.mem_append] at hy
       have hs' := h s' (List.mem_cons_self ..)
       rcases hy with rfl | hy | hy
       ·exact hs'
       ·exact hk' (IB set hs') y hy
       ·exact hr' (fun y hy => h y (List.mem_cons_of_mem _ hy)) y hy
     rw [key _ (IB set hs) x hx] at ha
     cases ha
   ·exact h2 x hx ha
  ·intro h
   refine ⟨?_, fun x hx => h x (.inr (.inr hx))⟩
   cases hs : act set s with
   | false => rfl
   | true =>
    simp only [Bool.not_true, Bool.false_or]
    rw [Hn]
    refine ⟨h s (.inl rfl) hs, ?_⟩
    by_cases hz : s.Kids.length = 0
    ·exact .inl hz
    ·exact .inr (hk.2 fun x hx => h x (.inr (.inl hx)))
theorem IC (l : List State) : mT l set = true ↔ (l.filter (act set)).length = 1 ∧ (∀ s ∈ flL l, act set s = true → cS set s) ∧ ly set l = set.length := by
 unfold mT
 rw [Tp, ← RK]
 split
 ·rename_i h
  simp only [Bool.and_eq_true, beq_iff_eq, Int.zero_add, h, true_and]
  constructor
  ·rintro ⟨h1, h2⟩; exact ⟨by omega, h2⟩
  ·rintro ⟨h1, h2⟩; exact ⟨by omega, h2⟩
 ·rename_i h
  simp [h]
def wM (nm : List UInt8) : Int := (((set.filter fun e => e == nm).length : Nat) : Int)
def wH (l : List State) : List State := (flL l).filter fun s => s.Kids.length == 0
theorem ID (l : List State) : ly set l = ((wH l).map fun s => wM set s.Name).sum := by
 unfold wH
 induction l using oe with
 | h0 => simp [ly, flL]
 | h1 s r hk hr =>
  simp only [ly, Av, hk, hr, flL, bD, List.cons_append, List.filter_cons, List.filter_append]
  by_cases hz : s.Kids.length = 0
  ·have : (s.Kids.length == 0) = true := by simp [hz]
   rw [if_pos hz, if_pos this]
   simp only [List.map_cons, List.sum_cons, List.map_append, List.sum_append, wM]
   omega
  ·have : ¬ (s.Kids.length == 0) = true := by simpa using hz
   rw [if_neg hz, if_neg this]
   simp only [List.map_append, List.sum_append]
   omega
end
theorem Mo {α : Type} (p q : α → Bool) (h : ∀ x, ¬ (p x = true ∧ q x = true)) : ∀ l : List α, (l.filter p).length + (l.filter q).length = (l.filter fun x => p x || q x).length
 | [] => rfl
 | x :: r => by
  have ih := Mo p q h r
  simp only [List.filter_cons]
  have := h x
  cases hp : p x <;> cases hq : q x <;> simp_all <;> omega
theorem Mp (set : List (List UInt8)) : ∀ L : List State, (L.map (·.Name)).Nodup → (L.map fun s => wM set s.Name).sum = (((set.filter fun nm => L.any fun s => s.Name == nm).length : Nat) : Int)
 | [], _ => by
  have : (set.filter fun nm => ([] : List State).any fun s => s.Name == nm) = [] := by
   rw [List.filter_eq_nil_iff]; intro x _ h; simp at h
  rw [this]; rfl
 | s :: r, h => by
  simp only [List.map_cons, List.nodup_cons] at h
  have ih := Mp set r h.2
  simp only [List.map_cons, List.sum_cons, ih, List.any_cons]
  unfold wM
  have := Mo (fun e => e == s.Name) (fun nm => r.any fun x => x.Name == nm) (fun x hx => by
   obtain ⟨h1, h2⟩ := hx
   simp only [beq_iff_eq] at h1
   subst h1
   obtain ⟨y, hy, hy2⟩ := List.any_eq_true.1 h2
   simp only [beq_iff_eq] at hy2
   exact h.1 (List.mem_map.2 ⟨y, hy, hy2⟩)) set
  have e : (set.filter fun nm => (s.Name == nm) || r.any fun x => x.Name == nm) = set.filter fun x => (x == s.Name) || r.any fun y => y.Name == x := by
   congr 1
   funext x
   congr 1
   rw [Bool.eq_iff_iff, beq_iff_eq, beq_iff_eq]; exact eq_comm
  rw [e]
  omega
theorem Nn {set : List (List UInt8)} (h : set.Nodup) (nm : List UInt8) : wM set nm ≤ 1 := by
 unfold wM
 induction set with
 | nil => simp
 | cons x r ih =>
  simp only [List.nodup_cons] at h
  have := ih h.2
  simp only [List.filter_cons]
  by_cases hx : x = nm
  ·subst hx
   have hn : r.filter (fun e => e == x) = [] := by
    rw [List.filter_eq_nil_iff]
    intro y hy hc
    simp only [beq_iff_eq] at hc
    exact h.1 (hc ▸ hy)
   simp [hn]
  ·have : (x == nm) = false := by simpa using hx
   rw [this]; simpa using ih h.2
theorem No {set : List (List UInt8)} (h : ∀ nm ∈ set, wM set nm ≤ 1) : set.Nodup := by
 unfold wM at h
 induction set with
 | nil => simp
 | cons x r ih =>
  rw [List.nodup_cons]
  refine ⟨fun hx => ?_, ih fun nm hm => ?_⟩
  ·have := h x (List.mem_cons_self ..)
   simp only [List.filter_cons, beq_self_eq_true, if_true, List.length_cons] at this
   have hm : x ∈ r.filter fun e => e == x := List.mem_filter.2 ⟨hx, by simp⟩
   have := List.length_pos_of_mem hm
   omega
  ·have := h nm (List.mem_cons_of_mem _ hm)
   simp only [List.filter_cons] at this
   split at this
   ·simp only [List.length_cons] at this; omega
   ·exact this
theorem Np {l : List State} (h : Uq l) (p : State → Bool) : ((l.filter p).map (·.Name)).Nodup := by
 unfold Uq at h
 exact List.Nodup.sublist (List.Sublist.map _ List.filter_sublist) h
def VD (set : List (List UInt8)) (l : List State) : Prop := (∀ nm ∈ set, ∃ x ∈ flL l, x.Name = nm ∧ x.Kids.length = 0) ∧ set.Nodup
theorem Pl (set : List (List UInt8)) (l : List State) (hu : Uq (flL l)) : ly set l = set.length ↔ ∀ nm ∈ set, ∃ x ∈ flL l, x.Name = nm ∧ x.Kids.length = 0 := by
 rw [ID, Mp set (wH l) (by unfold wH; exact Np hu _)]
 constructor
 ·intro h nm hm
  have h' : (set.filter fun nm => (wH l).any fun s => s.Name == nm).length = set.length := by omega
  have := List.length_filter_eq_length_iff.1 h' nm hm
  obtain ⟨x, hx, hn⟩ := List.any_eq_true.1 this
  unfold wH at hx
  rw [List.mem_filter] at hx
  exact ⟨x, hx.1, by simpa using hn, by simpa using hx.2⟩
 ·intro h
  have : (set.filter fun nm => (wH l).any fun s => s.Name == nm).length = set.length := by
   rw [List.length_filter_eq_length_iff]
   intro nm hm
   obtain ⟨x, hx, hn, hz⟩ := h nm hm
   refine List.any_eq_true.2 ⟨x, ?_, by simp [hn]⟩
   unfold wH
   rw [List.mem_filter]
   exact ⟨hx, by simp [hz]⟩
  omega
theorem IE {set : List (List UInt8)} {x : State} (h : x.Kids.length = 0) : hasN set x = wM set x.Name := by
 rw [Av, if_pos h, List.length_eq_zero_iff.1 h]
 simp [ly, wM]
def cP (set : List (List UInt8)) (s : State) : Prop := (kG s = 2 → (s.Kids.filter (act set)).length = 1) ∧ (kG s = 3 → (s.Kids.filter (act set)).length = s.Kids.length)
theorem AG (set : List (List UInt8)) (l : List State) (hu : Uq (flL l)) (hk : ∀ s ∈ flL l, (s.Kind = 1 ∨ s.Kind = 2) ∧ (s.Kind = 2 → s.Kids.length ≠ 0)) :
  mT l set = true ↔ VD set l ∧ (l.filter (act set)).length = 1 ∧ ∀ s ∈ flL l, act set s = true → cP set s := by
 rw [IC, Pl set l hu]
 have hcp : ∀ s ∈ flL l, cS set s → cP set s := by
  intro s hs h
  obtain ⟨h1, h2, h3⟩ := h
  obtain ⟨k1, k2⟩ := hk s hs
  unfold cP
  rcases k1 with e | e
  ·have hkn : kG s = if s.Kids.length = 0 then 1 else 2 := by unfold kG; simp [e]
   rw [hkn]
   by_cases hz : s.Kids.length = 0
   ·rw [if_pos hz]; exact ⟨fun h => absurd h (by decide), fun h => absurd h (by decide)⟩
   ·rw [if_neg hz]; exact ⟨fun _ => h3 hz (by omega), fun h => absurd h (by decide)⟩
  ·have hkn : kG s = 3 := by unfold kG; simp [e]
   have := h2 (k2 e) e
   rw [hkn]
   refine ⟨fun h => absurd h (by decide), fun _ => ?_⟩
   exact List.length_filter_eq_length_iff.2 fun x hx => List.all_eq_true.1 this x hx
 constructor
 ·rintro ⟨h1, h2, h3⟩
  refine ⟨⟨h3, No fun nm hm => ?_⟩, h1, fun s hs ha => hcp s hs (h2 s hs ha)⟩
  obtain ⟨x, hx, rfl, hz⟩ := h3 nm hm
  have hl := IE (set := set) hz
  cases ha : act set x with
  | true => have := (h2 x hx ha).1 hz; omega
  | false =>
   unfold act at ha
   have : hasN set x = 0 := by simpa using ha
   omega
 ·rintro ⟨⟨v, dd⟩, h1, h2⟩
  refine ⟨h1, fun s hs ha => ?_, v⟩
  have hcp := h2 s hs ha
  obtain ⟨k1, k2⟩ := hk s hs
  unfold cP kG at hcp
  refine ⟨fun hz => ?_, fun hz e => ?_, fun hz e => ?_⟩
  ·have hl := IE (set := set) hz
   have := Nn dd s.Name
   have h0 := (yB set s).1
   have : hasN set s ≠ 0 := by unfold act at ha; simpa using ha
   omega
  ·have := hcp.2 (by simp [e])
   refine List.all_eq_true.2 fun x hx => List.length_filter_eq_length_iff.1 this x hx
  ·have e1 : s.Kind = 1 := by omega
   exact hcp.1 (by simp [e1, hz])
def Flat (c : Chart) : Prop := Uq (flL c.States) ∧ (flL c.States).length ≤ 63 ∧ ∀ s ∈ flL c.States, (s.Kind = 1 ∨ s.Kind = 2) ∧ (s.Kind = 2 → s.Kids.length ≠ 0)
theorem IF {s : State} (h : s.Kind = 1 ∨ s.Kind = 2) : kG s ≤ 3 := by
 unfold kG
 rcases h with e | e
 ·simp [e]; split <;> omega
 ·simp [e]
theorem Gw {s : State} (h : (s.Kind = 1 ∨ s.Kind = 2) ∧ (s.Kind = 2 → s.Kids.length ≠ 0)) : kG s = 1 ↔ s.Kids.length = 0 := by
 obtain ⟨h1, h2⟩ := h
 rcases h1 with e | e
 ·have : kG s = if s.Kids.length = 0 then 1 else 2 := by unfold kG; simp [e]
  rw [this]
  split <;> simp_all
 ·have : kG s = 3 := by unfold kG; simp [e]
  rw [this]
  have := h2 e
  simp [this]
section
variable {c : Chart} {nd : List Node} (h : nd.map tri = Tn c)
include h
theorem En : nd.length = 1 + (flL c.States).length := by
 have := congrArg List.length h
 simp only [List.length_map, Tn, List.length_cons, rJ] at this
 omega
theorem Ho : ∃ y, nd[0]? = some y ∧ y.Kind = 2 ∧ y.Parent = -1 := by
 cases nd with
 | nil => simp [Tn] at h
 | cons y r =>
  simp only [List.map_cons, Tn, List.cons.injEq] at h
  have := h.1
  unfold tri at this
  simp only [Prod.mk.injEq] at this
  exact ⟨y, rfl, this.1, this.2.1⟩
theorem UC (hf : Flat c) : Pe nd := by
 have hl := En h
 refine ⟨by have := hf.2.1; omega, fun i x hx => ?_⟩
 have hi : i < nd.length := (List.getElem?_eq_some_iff.1 hx).1
 by_cases h0 : i = 0
 ·subst h0
  obtain ⟨y, hy, h1, h2⟩ := Ho h
  rw [hx] at hy
  cases hy
  omega
 ·obtain ⟨p, s, hm⟩ := xq h (k := i) (by omega) (by omega)
  obtain ⟨y, hy, k1, k2, k3, _⟩ := AF h hm
  rw [Int.toNat_natCast, hx] at hy
  cases hy
  have hr := eZ _ _ _ _ _ _ hm
  have hs : s ∈ flL c.States := by rw [← kS c.States 0 1]; exact List.mem_map.2 ⟨_, hm, rfl⟩
  have := IF (hf.2.2 s hs).1
  omega
theorem Hp {k p : Int} {s : State} (hm : (k, p, s) ∈ nL 0 1 c.States) : s ∈ flL c.States := by
 have _ := h
 rw [← kS c.States 0 1]; exact List.mem_map.2 ⟨_, hm, rfl⟩
theorem Tq (hu : Uq (flL c.States)) {k p k' p' : Int} {s s' : State} (hm : (k, p, s) ∈ nL 0 1 c.States) (hm' : (k', p', s') ∈ nL 0 1 c.States) (hn : s.Name = s'.Name) : k = k' ∧ s = s' := by
 have _ := h
 obtain ⟨j, hj⟩ := List.getElem?_of_mem hm
 obtain ⟨j', hj'⟩ := List.getElem?_of_mem hm'
 have hlt : j < (flL c.States).length := by have := (List.getElem?_eq_some_iff.1 hj).1; rwa [rJ] at this
 have e1 : ((flL c.States).map (·.Name))[j]? = some s.Name := by rw [← kS c.States 0 1, List.map_map, List.getElem?_map, hj]; rfl
 have e2 : ((flL c.States).map (·.Name))[j']? = some s'.Name := by rw [← kS c.States 0 1, List.map_map, List.getElem?_map, hj']; rfl
 have : j = j' := (List.getElem?_inj (by simpa using hlt) hu).1 (by rw [e1, e2, hn])
 subst this
 rw [hj] at hj'
 have := Option.some.inj hj'
 simp only [Prod.mk.injEq] at this
 exact ⟨this.1, this.2.2⟩
theorem SJ {k p p' : Int} {s s' : State} (hm : (k, p, s) ∈ nL 0 1 c.States) (hm' : (k, p', s') ∈ nL 0 1 c.States) : s = s' := by
 have _ := h
 obtain ⟨j, hj⟩ := List.getElem?_of_mem hm
 obtain ⟨j', hj'⟩ := List.getElem?_of_mem hm'
 have hlt : j < (flL c.States).length := by have := (List.getElem?_eq_some_iff.1 hj).1; rwa [rJ] at this
 have hlt' : j' < (flL c.States).length := by have := (List.getElem?_eq_some_iff.1 hj').1; rwa [rJ] at this
 have e1 : ((nL 0 1 c.States).map (·.1))[j]? = some k := by rw [List.getElem?_map, hj]; rfl
 have e2 : ((nL 0 1 c.States).map (·.1))[j']? = some k := by rw [List.getElem?_map, hj']; rfl
 rw [Ek, AE _ _ _ hlt] at e1
 rw [Ek, AE _ _ _ hlt'] at e2
 have : j = j' := by have := Option.some.inj e1; have := Option.some.inj e2; omega
 subst this
 rw [hj] at hj'
 have := Option.some.inj hj'
 simp only [Prod.mk.injEq] at this
 exact this.2.2
theorem Eo {k p : Int} {s : State} (hm : (k, p, s) ∈ nL 0 1 c.States) : qe nd k = p ∧ kdI nd k = kG s := by
 obtain ⟨y, hy, k1, k2, k3, _⟩ := AF h hm
 unfold qe kdI
 rw [hy]
 exact ⟨k2, k1⟩
theorem Pm (hf : Flat c) : ∀ (m : Nat) (a : Int), 0 ≤ a → a < m → a < nd.length → (0 : Int) ∈ chn (qe nd) m a := by
 intro m
 induction m with
 | zero => intro a h0 h1; omega
 | succ m ih =>
  intro a h0 h1 h2
  unfold chn
  rw [if_neg (by omega)]
  by_cases hz : a = 0
  ·subst hz; exact List.mem_cons_self ..
  ·obtain ⟨p, s, hm⟩ := xq h (k := a) (by omega) h2
   have hr := eZ _ _ _ _ _ _ hm
   rw [(Eo h hm).1]
   exact List.mem_cons_of_mem _ (ih p (by omega) (by omega) (by omega))
theorem Mq {q p0 : Int} {s : State} (hq : (q, p0, s) ∈ nL 0 1 c.States) : ∀ (m : Nat) (a : Int), 0 ≤ a → a < m → a < nd.length → (q ∈ chn (qe nd) m a ↔ (q ≤ a ∧ a < q + (flS s).length)) := by
 have hq1 := eZ _ _ _ _ _ _ hq
 have hsz := DK s
 intro m
 induction m with
 | zero => intro a h0 h1; omega
 | succ m ih =>
  intro a h0 h1 h2
  unfold chn
  rw [if_neg (by omega), List.mem_cons]
  by_cases hz : a = 0
  ·subst hz
   obtain ⟨y, hy, _, hp⟩ := Ho h
   have hpar : qe nd 0 = -1 := by unfold qe; rw [show (0 : Int).toNat = 0 from rfl, hy]; exact hp
   rw [hpar]
   have : chn (qe nd) m (-1) = [] := by cases m <;> simp [chn]
   rw [this]
   simp only [List.not_mem_nil, or_false]
   omega
  ·obtain ⟨p, x, hm⟩ := xq h (k := a) (by omega) h2
   have hr := eZ _ _ _ _ _ _ hm
   rw [(Eo h hm).1]
   by_cases he : a = q
   ·subst he
    simp only [true_or, true_iff]; omega
   ·rw [ih p (by omega) (by omega) (by omega), ← Tl _ _ _ (by omega) _ _ _ hq _ _ _ hm he]
    constructor
    ·rintro (h | h)
     ·exact absurd h.symm he
     ·exact h
    ·exact .inr
end
theorem AH {α β : Type} (f : α → β) : ∀ l : List α, (l.map f).Nodup → l.Nodup
 | [], _ => List.nodup_nil
 | x :: r, h => by
  rw [List.map_cons, List.nodup_cons] at h
  rw [List.nodup_cons]
  exact ⟨fun hx => h.1 (List.mem_map.2 ⟨x, hx, rfl⟩), AH f r h.2⟩
def hS (nd : List Node) (nm : List UInt8) : Int := if idx (fun e : Node => e.Name == nm) (nd.drop 1) < 0 then -1 else idx (fun e : Node => e.Name == nm) (nd.drop 1) + 1
section
variable {c : Chart} {nd : List Node} (h : nd.map tri = Tn c)
include h
theorem pn (nm : List UInt8) : (∃ p x, (hS nd nm, p, x) ∈ nL 0 1 c.States ∧ x.Name = nm) ∨ (hS nd nm = -1 ∧ ∀ x ∈ flL c.States, x.Name ≠ nm) := by
 unfold hS
 by_cases hz : idx (fun e : Node => e.Name == nm) (nd.drop 1) < 0
 ·rw [if_pos hz]
  refine .inr ⟨rfl, fun x hx hn => ?_⟩
  rw [← kS c.States 0 1] at hx
  obtain ⟨⟨k, p, y⟩, hm, rfl⟩ := List.mem_map.1 hx
  obtain ⟨w, hw, _, _, hn', hk⟩ := AF h hm
  have hin : w ∈ nd.drop 1 := by
   rw [List.mem_iff_getElem?]
   refine ⟨k.toNat - 1, ?_⟩
   rw [List.getElem?_drop, show 1 + (k.toNat - 1) = k.toNat by omega]; exact hw
  have hany : (nd.drop 1).any (fun e : Node => e.Name == nm) = true := List.any_eq_true.2 ⟨w, hin, by simp only [beq_iff_eq]; exact hn'.trans hn⟩
  have := jY (fun e : Node => e.Name == nm) (nd.drop 1)
  rw [hany, decide_eq_true hz] at this
  cases this
 ·rw [if_neg hz]
  left
  obtain ⟨e, h1, h2⟩ := qV hz
  have he := List.find?_some h2
  have hlt := OF (fun e : Node => e.Name == nm) (nd.drop 1)
  have hdl : (nd.drop 1).length = nd.length - 1 := by simp
  generalize idx (fun e : Node => e.Name == nm) (nd.drop 1) = j at *
  obtain ⟨p, x, hm⟩ := xq h (k := j + 1) (by omega) (by omega)
  obtain ⟨y, hy, _, _, hn, _⟩ := AF h hm
  refine ⟨p, x, hm, ?_⟩
  unfold at? at h1
  rw [if_neg hz, List.getElem?_drop, show 1 + j.toNat = (j + 1).toNat by omega, hy] at h1
  have : y = e := Option.some.inj h1
  subst this
  rw [← hn]
  simpa using he
theorem Mr : ∀ (l pre : List Int), okA nd pre l = true ↔ (∀ a ∈ l, (0 ≤ a ∧ a < nd.length) ∧ kdI nd a = 1) ∧ l.Nodup ∧ ∀ a ∈ l, a ∉ pre
 | [], pre => by have _ := h; simp [okA]
 | x :: r, pre => by
  simp only [okA, Bool.and_eq_true, Bool.not_eq_true', Mr r (pre ++ [x])]
  constructor
  ·rintro ⟨h1, h2, h3, h4⟩
   obtain ⟨g1, g2, g3, g4⟩ := zD h1
   refine ⟨fun a ha => ?_, ?_, fun a ha => ?_⟩
   ·rcases List.mem_cons.1 ha with rfl | ha
    ·exact ⟨⟨g1, g2⟩, g3⟩
    ·exact h2 a ha
   ·rw [List.nodup_cons]
    exact ⟨fun hx => h4 x hx (by simp), h3⟩
   ·rcases List.mem_cons.1 ha with rfl | ha
    ·exact g4
    ·exact fun hc => h4 a ha (List.mem_append_left _ hc)
  ·rintro ⟨h1, h2, h3⟩
   rw [List.nodup_cons] at h2
   obtain ⟨⟨g1, g2⟩, g3⟩ := h1 x (List.mem_cons_self ..)
   refine ⟨?_, fun a ha => h1 a (List.mem_cons_of_mem _ ha), h2.2, fun a ha hc => ?_⟩
   ·unfold IA
    have hn : lz pre x = false := by
     rw [Bool.eq_false_iff]; intro hc; exact h3 x (List.mem_cons_self ..) (kb.1 hc)
    rw [hn, g3]
    simp [g1, g2]
   ·rcases List.mem_append.1 hc with hc | hc
    ·exact h3 a (List.mem_cons_of_mem _ ha) hc
    ·rw [List.mem_singleton.1 hc] at ha; exact h2.1 ha
theorem Tr (hf : Flat c) (set : List (List UInt8)) : okA nd [] (set.map (hS nd)) = true ↔ VD set c.States := by
 rw [Mr h]
 unfold VD
 have hl := En h
 have hv : (∀ a ∈ set.map (hS nd), (0 ≤ a ∧ a < nd.length) ∧ kdI nd a = 1) ↔ ∀ nm ∈ set, ∃ x ∈ flL c.States, x.Name = nm ∧ x.Kids.length = 0 := by
  constructor
  ·intro hv nm hm
   obtain ⟨⟨h1, h2⟩, h3⟩ := hv _ (List.mem_map.2 ⟨nm, hm, rfl⟩)
   rcases pn h nm with ⟨p, x, hx, hn⟩ | ⟨hx, _⟩
   ·have hs := Hp h hx
    rw [(Eo h hx).2] at h3
    exact ⟨x, hs, hn, (Gw (hf.2.2 x hs)).1 h3⟩
   ·omega
  ·intro hv a ha
   obtain ⟨nm, hm, rfl⟩ := List.mem_map.1 ha
   obtain ⟨y, hy, hyn, hyk⟩ := hv nm hm
   rcases pn h nm with ⟨p, x, hx, hn⟩ | ⟨_, hx⟩
   ·have hr := eZ _ _ _ _ _ _ hx
    have hy' := hy
    rw [← kS c.States 0 1] at hy'
    obtain ⟨⟨k, p', y'⟩, hm', rfl⟩ := List.mem_map.1 hy'
    have := (Tq h hf.1 hx hm' (hn.trans hyn.symm)).2
    subst this
    refine ⟨by omega, ?_⟩
    rw [(Eo h hx).2]
    exact (Gw (hf.2.2 _ hy)).2 hyk
   ·exact absurd hyn (hx y hy)
 rw [hv]
 constructor
 ·rintro ⟨h1, h2, _⟩
  refine ⟨h1, ?_⟩
  exact AH _ _ h2
 ·rintro ⟨h1, h2⟩
  refine ⟨h1, ?_, fun _ _ hc => by cases hc⟩
  have inj : ∀ a ∈ set, ∀ b ∈ set, hS nd a = hS nd b → a = b := by
   intro a ha b hb he
   obtain ⟨y, hy, hyn, _⟩ := h1 a ha
   obtain ⟨z, hz, hzn, _⟩ := h1 b hb
   rcases pn h a with ⟨p, x, hx, hn⟩ | ⟨_, hx⟩
   ·rcases pn h b with ⟨p', x', hx', hn'⟩ | ⟨_, hx'⟩
    ·rw [he] at hx
     have := SJ h hx hx'
     rw [← hn, ← hn', this]
    ·exact absurd hzn (hx' z hz)
   ·exact absurd hyn (hx y hy)
  clear h1 hv
  induction set with
  | nil => simp
  | cons x r ih =>
   rw [List.nodup_cons] at h2
   rw [List.map_cons, List.nodup_cons]
   refine ⟨fun hc => ?_, ih h2.2 fun a ha b hb => inj a (List.mem_cons_of_mem _ ha) b (List.mem_cons_of_mem _ hb)⟩
   obtain ⟨y, hy, he⟩ := List.mem_map.1 hc
   have := inj y (List.mem_cons_of_mem _ hy) x (List.mem_cons_self ..) he
   exact h2.1 (this ▸ hy)
end
theorem IG (set : List (List UInt8)) (s : State) : act set s = true ↔ ∃ x ∈ flS s, x.Kids.length = 0 ∧ x.Name ∈ set := by
 have hs : hasN set s = ((wH [s]).map fun s => wM set s.Name).sum := by
  rw [← ID]; simp [ly]
 have hl : wH [s] = (flS s).filter fun s => s.Kids.length == 0 := by simp [wH, flL]
 have hcm : ∀ nm, 0 < wM set nm ↔ nm ∈ set := by
  intro nm
  unfold wM
  constructor
  ·intro hp
   obtain ⟨y, hy⟩ := List.exists_mem_of_length_pos (show 0 < (set.filter fun e => e == nm).length by omega)
   rw [List.mem_filter] at hy
   have : y = nm := by simpa using hy.2
   exact this ▸ hy.1
  ·intro hm
   have : nm ∈ set.filter fun e => e == nm := List.mem_filter.2 ⟨hm, by simp⟩
   have := List.length_pos_of_mem this
   omega
 have key : ∀ L : List State, 0 ≤ (L.map fun s => wM set s.Name).sum ∧ ((L.map fun s => wM set s.Name).sum ≠ 0 ↔ ∃ x ∈ L, x.Name ∈ set) := by
  intro L
  induction L with
  | nil => simp
  | cons y r ih =>
   have h0 : 0 ≤ wM set y.Name := by unfold wM; omega
   have h1 := hcm y.Name
   simp only [List.map_cons, List.sum_cons, List.mem_cons]
   refine ⟨by omega, ?_⟩
   constructor
   ·intro hne
    by_cases hy : y.Name ∈ set
    ·exact ⟨y, .inl rfl, hy⟩
    ·have : ¬ 0 < wM set y.Name := fun hc => hy (h1.1 hc)
     obtain ⟨x, hx, hx2⟩ := ih.2.1 (by omega)
     exact ⟨x, .inr hx, hx2⟩
   ·rintro ⟨x, hx, hx2⟩
    rcases hx with rfl | hx
    ·have := h1.2 hx2; omega
    ·have := ih.2.2 ⟨x, hx, hx2⟩; omega
 unfold act
 simp only [Bool.not_eq_true', beq_eq_false_iff_ne, ne_eq]
 rw [hs]
 have := (key (wH [s])).2
 rw [ne_eq] at this
 rw [this, hl]
 constructor
 ·rintro ⟨x, hx, h2⟩
  rw [List.mem_filter] at hx
  exact ⟨x, hx.1, by simpa using hx.2, h2⟩
 ·rintro ⟨x, hx, h2, h3⟩
  exact ⟨x, List.mem_filter.2 ⟨hx, by simp [h2]⟩, h3⟩
section
variable {c : Chart} {nd : List Node} (h : nd.map tri = Tn c)
include h
theorem RL (hf : Flat c) (set : List (List UInt8)) : Ei nd (set.map (hS nd)) = mT c.States set := by
 have hl := En h
 have hl63 := hf.2.1
 rw [Bool.eq_iff_iff, AG set c.States hf.1 hf.2.2]
 unfold Ei
 rw [Bool.and_eq_true, Tr h hf set]
 refine and_congr_right fun vd => ?_
 -- atoms
 have hat : ∀ a ∈ set.map (hS nd), ∃ p x, (a, p, x) ∈ nL 0 1 c.States ∧ x.Name ∈ set ∧ x.Kids.length = 0 ∧ (0 ≤ a ∧ a < nd.length) := by
  intro a ha
  obtain ⟨nm, hm, rfl⟩ := List.mem_map.1 ha
  obtain ⟨y, hy, hyn, hyk⟩ := vd.1 nm hm
  rcases pn h nm with ⟨p, x, hx, hn⟩ | ⟨_, hx⟩
  ·have hr := eZ _ _ _ _ _ _ hx
   have hy' := hy
   rw [← kS c.States 0 1] at hy'
   obtain ⟨⟨k, p', y'⟩, hm', rfl⟩ := List.mem_map.1 hy'
   have := (Tq h hf.1 hx hm' (hn.trans hyn.symm)).2
   subst this
   exact ⟨p, _, hx, hn ▸ hm, hyk, by omega⟩
  ·exact absurd hyn (hx y hy)
 have hconf : ∀ q, lz (ofL (pj nd (set.map (hS nd)))) q = true ↔ (0 ≤ q ∧ q < 128) ∧ ∃ a ∈ set.map (hS nd), q ∈ chn (qe nd) 64 a := by
  intro q
  rw [kb]
  unfold ofL
  rw [AD]
  unfold pj
  rw [List.mem_flatMap]
  constructor
  ·rintro ⟨⟨h1, h2⟩, h3⟩; exact ⟨⟨h1, by omega⟩, h3⟩
  ·rintro ⟨⟨h1, h2⟩, h3⟩; exact ⟨⟨h1, by omega⟩, h3⟩
 generalize hcf : ofL (pj nd (set.map (hS nd))) = conf at *
 have hact : ∀ q p s, (q, p, s) ∈ nL 0 1 c.States → (lz conf q = act set s) := by
  intro q p s hq
  have hr := eZ _ _ _ _ _ _ hq
  rw [Bool.eq_iff_iff, hconf, IG]
  obtain ⟨e1, e2⟩ := Tm _ _ _ _ _ _ hq
  constructor
  ·rintro ⟨_, a, ha, hc⟩
   obtain ⟨p', x, hx, hn, hk, hb⟩ := hat a ha
   have := (Mq h hq 64 a hb.1 (by omega) hb.2).1 hc
   exact ⟨x, e1 _ _ _ hx this.1 this.2, hk, hn⟩
  ·rintro ⟨x, hx, hk, hn⟩
   refine ⟨by omega, hS nd x.Name, List.mem_map.2 ⟨_, hn, rfl⟩, ?_⟩
   obtain ⟨k, p', hm, g1, g2⟩ := e2 x hx
   obtain ⟨p2, x2, hx2, hn2, hk2, hb⟩ := hat _ (List.mem_map.2 ⟨x.Name, hn, rfl⟩)
   have hn3 : x2.Name = x.Name := by
    rcases pn h x.Name with ⟨p3, x3, hx3, hn3⟩ | ⟨hx3, _⟩
    ·rw [SJ h hx2 hx3]; exact hn3
    ·omega
   have := (Tq h hf.1 hx2 hm hn3).1
   rw [this] at hb ⊢
   exact (Mq h hq 64 k hb.1 (by omega) hb.2).2 ⟨g1, g2⟩
 have hkI : ∀ q, 0 ≤ q → ((kI q 0 nd).filter (lz conf)).length = ((((nL 0 1 c.States).filter fun x => x.2.1 == q).map (·.2.2)).filter (act set)).length ∧ (kI q 0 nd).length = (((nL 0 1 c.States).filter fun x => x.2.1 == q).map (·.2.2)).length := by
  intro q hq
  rw [UA h hq]
  refine ⟨?_, by simp⟩
  rw [List.filter_map, List.filter_map, List.length_map, List.length_map]
  congr 1
  apply List.filter_congr
  rintro ⟨k, p, x⟩ hx
  exact hact k p x (List.mem_filter.1 hx).1
 have hc0 : uC nd conf 0 = true ↔ (c.States.filter (act set)).length = 1 := by
  obtain ⟨y, hy, hk, _⟩ := Ho h
  have hkd : kdI nd 0 = 2 := by unfold kdI; rw [show (0 : Int).toNat = 0 from rfl, hy]; exact hk
  obtain ⟨k1, k2⟩ := hkI 0 (by omega)
  rw [Pj c.States 0 1 (by omega)] at k1 k2
  unfold uC
  rw [hkd, k1]
  simp only [show ((2 : Int) == 2) = true from rfl, show ((2 : Int) == 3) = false from rfl, Bool.true_and, Bool.false_and, Bool.not_false, Bool.and_true, Bool.not_eq_true', bne_eq_false_iff_eq]
  omega
 have hcq : ∀ q p s, (q, p, s) ∈ nL 0 1 c.States → (uC nd conf q = true ↔ cP set s) := by
  intro q p s hq
  have hr := eZ _ _ _ _ _ _ hq
  obtain ⟨k1, k2⟩ := hkI q (by omega)
  rw [RI c.States 0 1 (by omega) q p s hq] at k1 k2
  unfold uC cP
  rw [(Eo h hq).2, k1, k2]
  by_cases e2 : kG s = 2
  ·simp only [e2, show ((2 : Int) == 2) = true from rfl, show ((2 : Int) == 3) = false from rfl, Bool.true_and, Bool.false_and, Bool.not_false, Bool.and_true, Bool.not_eq_true', bne_eq_false_iff_eq, true_implies, show ¬ ((2 : Int) = 3) by decide, false_implies, and_true]
   omega
  ·by_cases e3 : kG s = 3
   ·simp only [e3, show ((3 : Int) == 2) = false from rfl, show ((3 : Int) == 3) = true from rfl, Bool.true_and, Bool.false_and, Bool.not_false, Bool.true_and, Bool.not_eq_true', bne_eq_false_iff_eq, true_implies, show ¬ ((3 : Int) = 2) by decide, false_implies, true_and]
    omega
   ·have b2 : (kG s == 2) = false := by simpa using e2
    have b3 : (kG s == 3) = false := by simpa using e3
    simp [b2, b3, e2, e3]
 rw [Bool.and_eq_true]
 constructor
 ·rintro ⟨h0, hall⟩
  have hm0 := kb.1 h0
  refine ⟨hc0.1 (List.all_eq_true.1 hall 0 hm0), fun s hs ha => ?_⟩
  rw [← kS c.States 0 1] at hs
  obtain ⟨⟨q, p, s'⟩, hq, rfl⟩ := List.mem_map.1 hs
  have : lz conf q = true := by rw [hact q p s' hq]; exact ha
  exact (hcq q p s' hq).1 (List.all_eq_true.1 hall q (kb.1 this))
 ·rintro ⟨h1, h2⟩
  have hex : ∃ s ∈ c.States, act set s = true := by
   obtain ⟨x, hx⟩ := List.exists_mem_of_length_pos (show 0 < (c.States.filter (act set)).length by omega)
   exact ⟨x, (List.mem_filter.1 hx).1, (List.mem_filter.1 hx).2⟩
  obtain ⟨s0, _, ha0⟩ := hex
  obtain ⟨x0, _, _, hn0⟩ := (IG set s0).1 ha0
  obtain ⟨p, x, hx, _, _, hb⟩ := hat _ (List.mem_map.2 ⟨_, hn0, rfl⟩)
  refine ⟨(hconf 0).2 ⟨by omega, _, List.mem_map.2 ⟨_, hn0, rfl⟩, Pm h hf 64 _ hb.1 (by omega) hb.2⟩, List.all_eq_true.2 fun q hq => ?_⟩
  by_cases hz : q = 0
  ·subst hz; exact hc0.2 h1
  ·obtain ⟨⟨g1, g2⟩, a, ha, hc⟩ := (hconf q).1 (kb.2 hq)
   obtain ⟨p', x', hx', _, _, hb'⟩ := hat a ha
   have hrg := (DJ nd (UC h hf) 64 a (by omega) hb'.2 q hc).1
   obtain ⟨p2, s2, hq2⟩ := xq h (k := q) (by omega) hrg.2
   have : act set s2 = true := by rw [← hact q p2 s2 hq2]; exact kb.2 hq
   exact (hcq q p2 s2 hq2).2 (h2 s2 (Hp h hq2) this)
end
theorem RN (l : List State) : ∀ (top : Bool) (out : List State), out.length ≤ 63 → (trL top out l).1 = 0 → (out ++ flL l).length ≤ 63 ∧ ∀ s ∈ flL l, ∃ t, BW t s = false := by
 refine State.rec_1 (motive_1 := fun s => ∀ (top : Bool) (out : List State), out.length ≤ 63 → (tr1 top out s).1 = 0 → (out ++ flS s).length ≤ 63 ∧ ∀ x ∈ flS s, ∃ t, BW t x = false) (motive_2 := fun l => ∀ (top : Bool) (out : List State), out.length ≤ 63 → (trL top out l).1 = 0 → (out ++ flL l).length ≤ 63 ∧ ∀ s ∈ flL l, ∃ t, BW t s = false) ?_ ?_ ?_ l
 ·intro k n en ex tr kids a ih top out hu h
  rw [zC] at h
  obtain ⟨h1, h2⟩ := cz.1 h
  unfold iq at h1
  obtain ⟨h3, h4⟩ := cz.1 h1
  have h5 := (cz.1 h4).2
  rw [sZ (by decide)] at h3 h5
  have h6 := of_decide_eq_true h3
  obtain ⟨g1, g2⟩ := ih false _ (by simp; omega) h2
  rw [bD]
  refine ⟨by simpa using g1, fun x hx => ?_⟩
  rcases List.mem_cons.1 hx with rfl | hx
  ·exact ⟨top, by simpa using h5⟩
  ·exact g2 x hx
 ·intro top out hu _
  exact ⟨by simpa [flL] using hu, fun s hs => by simp [flL] at hs⟩
 ·intro s r h1 h2 top out hu h
  simp only [trL] at h
  obtain ⟨g1, g2⟩ := cz.1 h
  obtain ⟨a1, a2⟩ := h1 top out hu g1
  obtain ⟨b1, b2⟩ := h2 top _ a1 g2
  refine ⟨by simpa [flL] using b1, fun x hx => ?_⟩
  simp only [flL, List.mem_append] at hx
  rcases hx with hx | hx
  ·exact a2 x hx
  ·exact b2 x hx
def CL (c : Chart) : Prop := Dq c ∧ (trL true [] c.States).1 = 0
theorem Ms : CL c0 := by
 refine ⟨⟨?_, ?_, ?_, ?_, ?_⟩, ?_⟩ <;> simp [c0, aN, mu, trL]
theorem Gx {c : Chart} (h : CL c) (hh : (flL c.States).any isH = false) : Flat c := by
 obtain ⟨h1, h2⟩ := h
 obtain ⟨a1, a2⟩ := RN c.States true [] (by simp) h2
 refine ⟨by simpa using Pa c.States true [] (by simp [Uq]) h2, by simpa using a1, fun s hs => ?_⟩
 have hk := (mG (Mg c.States h1.2.2.2.2 s hs)).1
 have hn : isH s = false := by
  have := List.any_eq_false.1 hh s hs
  simpa using this
 unfold isH at hn
 simp only [Bool.or_eq_false_iff, beq_eq_false_iff_ne, ne_eq] at hn
 refine ⟨by omega, fun h2 hz => ?_⟩
 obtain ⟨t, ht⟩ := a2 s hs
 unfold BW at ht
 simp only [Bool.or_eq_false_iff, Bool.and_eq_false_iff] at ht
 have hnil : s.Kids = [] := List.eq_nil_of_length_eq_zero hz
 rcases ht.1.2 with h | h
 ·simp [h2] at h
 ·simp [hnil] at h
theorem RO {Cs : List Chart} (h : (gP tO [] Cs).1 = 0) (hc : ∀ c ∈ Cs, Dq c) : ∀ c ∈ Cs, CL c := by
 intro c hm
 obtain ⟨p, hp⟩ := Cc _ _ _ h c hm
 unfold tO chF at hp
 exact ⟨hc c hm, (cz.1 (cz.1 (cz.1 hp).2).2).1⟩
section
variable {R : Type} {N : Nat}
theorem Gy (c : Chart) (nm : List UInt8) (k : Bool → Option R) (hN : big ≤ N) (hc : Dq c) (hf : Flat c) : pC N c.Name c.Steps c.Fuel c.Vars c.Ports c.Timers c.States c.At nm k = k ((flL c.States).any fun e => e.Name == nm) := by
 have hb : big = 1000000000 := rfl
 have h4 := hc.2.2.2.1
 have h63 := hf.2.1
 unfold pC
 obtain ⟨nd, g1, g2⟩ := Iy c (fun (r1 : List Node) =>
 vg N r1 nm (fun (r2 : Int) =>
 (ifB (decide (r2 > 0)) true ((at? r1 r2).bind fun e3 =>
 some (decide (e3.Kind ≤ 3))) (some false)).bind fun c4 =>
 k c4)) hN (by omega)
 have hl := En g2
 rw [g1, Iz _ _ _ hN (by omega)]
 change ((ifB (decide (hS nd nm > 0)) true ((at? nd (hS nd nm)).bind fun e3 => some (decide (e3.Kind ≤ 3))) (some false)).bind fun c4 => k c4) = _
 rcases pn g2 nm with ⟨p, x, hx, hn⟩ | ⟨hx, hn⟩
 ·obtain ⟨y, hy, k1, k2, k3, k4⟩ := AF g2 hx
  have hs := Hp g2 hx
  have := IF (hf.2.2 x hs).1
  rw [bf (by omega) hy]
  have ha : ((flL c.States).any fun e => e.Name == nm) = true := List.any_eq_true.2 ⟨x, hs, by simp [hn]⟩
  rw [ha, decide_eq_true (show hS nd nm > 0 by omega)]
  simp [ifB, show y.Kind ≤ 3 by omega]
 ·have ha : ((flL c.States).any fun e => e.Name == nm) = false := by
   rw [List.any_eq_false]
   intro x hx
   simpa using hn x hx
  rw [hx, ha]
  simp [ifB]
theorem RP (c : Chart) (set : List (List UInt8)) (k : List Int → Bool → Option R) (hN : big ≤ N) (hc : Dq c) (hf : Flat c) (hs : set.length ≤ 16386) : ∃ L, DM N c.Name c.Steps c.Fuel c.Vars c.Ports c.Timers c.States c.At set k = k L (mT c.States set) := by
 have hb : big = 1000000000 := rfl
 have h4 := hc.2.2.2.1
 have h63 := hf.2.1
 unfold DM
 obtain ⟨nd, g1, g2⟩ := Iy c (fun (r1 : List Node) =>
 nI N set r1 (fun (y13 : List Int) =>
 sD N r1 y13 (fun (r14 : List Int) (r15 : Bool) =>
 k r14 r15)) N 0 ([] : List Int)) hN (by omega)
 have hl := En g2
 obtain ⟨L, hL⟩ := Pg nd (set.map (hS nd)) k hN (UC g2 hf) (by simpa using hs)
 refine ⟨L, ?_⟩
 rw [g1, ← RL g2 hf set, ← hL]
 have := Hj (fun _ e (a : List Int) => a ++ [hS nd e]) (fun pre a => a.length = pre.length) (fun y13 => sD N nd y13 (fun (r14 : List Int) (r15 : Bool) => k r14 r15)) (l := set) (by omega) (fun n i a => nI N set nd (fun (y13 : List Int) =>
 sD N nd y13 (fun (r14 : List Int) (r15 : Bool) =>
 k r14 r15)) n i a) (fun n pre e rest a h hi h1 h2 => ⟨?_, by simp [hi]⟩) (fun n a hi => ?_) set [] [] N rfl rfl (by omega)
 ·rw [jt (fun (a : List Int) (e : List UInt8) => a ++ [hS nd e])] at this
  refine Eq.trans this ?_
  have hfo : ∀ (l : List (List UInt8)) (a : List Int), l.foldl (fun a e => a ++ [hS nd e]) a = a ++ l.map (hS nd) := by
   intro l
   induction l with
   | nil => intro a; simp
   | cons e r ih => intro a; simp only [List.foldl_cons, ih, List.map_cons]; simp
  rw [hfo]; rfl
 ·have hpl : pre.length ≤ set.length := by rw [h]; simp
  simp only [nI, rl, h1, h2, if_true, Option.bind_some]
  rw [Iz _ _ _ hN (by omega)]
  change (if a.length + [hS nd e].length ≤ ak then _ else none) = _
  rw [if_pos (by simp [ak]; omega)]
  rfl
 ·simp only [nI, rl]
  simp
end
def IH (a b : List (List UInt8)) : Bool := (a.all fun e => b.any fun x => x == e) && (((a.length : Nat) : Int) == ((b.length : Nat) : Int))
def RQ (y c : Cell) : Bool := ((y.Sets.zip c.Sets).all fun p => IH p.1 p.2) && ((y.Msgs.zip c.Msgs).all fun p => BY p.1 p.2)
theorem Ep : ∀ (a b : List (List UInt8)), a.Nodup → (∀ x ∈ a, x ∈ b) → b.length ≤ a.length → ∀ y ∈ b, y ∈ a
 | [], b, _, _, hl, y, hy => by
  have : b = [] := List.eq_nil_of_length_eq_zero (by simpa using hl)
  subst this; exact hy
 | x :: r, b, hn, hs, hl, y, hy => by
  rw [List.nodup_cons] at hn
  have hx := hs x (List.mem_cons_self ..)
  have hlen := List.length_erase_of_mem hx
  have hlp := List.length_pos_of_mem hx
  by_cases hyx : y = x
  ·subst hyx; exact List.mem_cons_self ..
  ·refine List.mem_cons_of_mem _ (Ep r (b.erase x) hn.2 (fun z hz => ?_) (by simp at hl; omega) y ((List.mem_erase_of_ne hyx).2 hy))
   exact (List.mem_erase_of_ne (fun hc : z = x => hn.1 (by rw [← hc]; exact hz))).2 (hs z (List.mem_cons_of_mem _ hz))
theorem Pn {a b : List (List UInt8)} (ha : a.Nodup) (hb : b.Nodup) : IH a b = uy b a := by
 unfold IH uy
 rw [Bool.eq_iff_iff]
 simp only [Bool.and_eq_true, List.all_eq_true, List.any_eq_true, beq_iff_eq, Bool.not_eq_true', List.any_eq_false, Bool.not_eq_false', exists_eq_right, exists_eq_right']
 constructor
 ·rintro ⟨h1, h2⟩
  refine ⟨h2.symm, fun y hy => ?_⟩
  have := Ep a b ha (fun x hx => h1 x hx) (by omega) y hy
  simpa using this
 ·rintro ⟨h1, h2⟩
  refine ⟨fun x hx => ?_, h1.symm⟩
  have := Ep b a hb (fun y hy => by have := h2 y hy; simpa using this) (by omega) x hx
  exact this
theorem AI {α β : Type} (f : α × β → Bool) (g : β × α → Bool) : ∀ (a : List α) (b : List β), (∀ x y, x ∈ a → y ∈ b → f (x, y) = g (y, x)) → (a.zip b).all f = (b.zip a).all g
 | [], b, _ => by cases b <;> rfl
 | x :: r, [], _ => rfl
 | x :: r, y :: s, h => by
  simp only [List.zip_cons_cons, List.all_cons]
  rw [h x y (List.mem_cons_self ..) (List.mem_cons_self ..), AI f g r s fun u v hu hv => h u v (List.mem_cons_of_mem _ hu) (List.mem_cons_of_mem _ hv)]
theorem Po (a b : List (List UInt8)) : BY a b = BY b a := by
 unfold BY
 rw [AI (fun p => p.1 == p.2) (fun p => p.1 == p.2) a b fun x y _ _ => by rw [Bool.eq_iff_iff]; simp only [beq_iff_eq]; exact eq_comm]
 congr 1
 exact decide_eq_decide.2 eq_comm
theorem Nq {y c : Cell} (h1 : y.Sets.length = c.Sets.length) (h2 : y.Msgs.length = c.Msgs.length) (hy : ∀ s ∈ y.Sets, s.Nodup) (hc : ∀ s ∈ c.Sets, s.Nodup) : RQ y c = xl c y := by
 unfold RQ xl Ma Mb
 rw [decide_eq_true h1.symm, decide_eq_true h2.symm, Bool.true_and, Bool.true_and]
 rw [AI (fun p => IH p.1 p.2) (fun p => uy p.1 p.2) y.Sets c.Sets fun a b ha hb => Pn (hy a ha) (hc b hb)]
 rw [AI (fun p => BY p.1 p.2) (fun p => BY p.1 p.2) y.Msgs c.Msgs fun a b _ _ => Po a b]
section
variable {R : Type} {N : Nat}
theorem Pp (a b : List (List UInt8)) (k : Bool → Option R) (hN : big ≤ N) (ha : a.length < big) (hb : b.length < big) : tH N a b k = k (IH a b) := by
 unfold tH IH
 have := search (l := a) (fun e => !b.any fun x => x == e) (fun j => if j < 0 then k (((a.length : Nat) : Int) == ((b.length : Nat) : Int)) else k false) ha (fun n i => jr N a b (k (((a.length : Nat) : Int) == ((b.length : Nat) : Int))) (fun y => k y) n i) (fun n i e h0 h1 h2 h3 h4 => ?_) (fun n i h => ?_) N (by omega)
 ·refine Eq.trans this ?_
  rw [Mc, ← jY]
  by_cases hz : idx (fun e => !b.any fun x => x == e) a < 0
  ·rw [if_pos hz, decide_eq_true hz, Bool.true_and]
  ·rw [if_neg hz, decide_eq_false hz, Bool.false_and]
 ·simp only [jr, mf, h2, h3, if_true, Option.bind_some]
  rw [eh _ _ _ hN hb, if_neg (show ¬ i < 0 by omega)]
 ·simp only [jr, mf, h]
  simp
theorem Nr (a b : List (List UInt8)) (k : Bool → Option R) (hN : big ≤ N) (ha : a.length < big) : yH N a b k = k (BY a b) := by
 unfold yH BY
 by_cases h : a.length = b.length
 ·have h' : ((((a.length : Nat) : Int) != ((b.length : Nat) : Int))) = false := by simp [h]
  simp only [h', Bool.false_eq_true, if_false]
  rw [decide_eq_true h, Bool.true_and]
  refine FJ a b (fun p => p.1 == p.2) k (by omega) h (fun n i => mg N a b (k true) (fun y => k y) n i) (fun n i e h0 h1 h2 h3 h4 h5 => ?_) (fun n i h => ?_) N (by omega)
  ·simp only [mg, oN, h2, h3, h4, if_true, Option.bind_some]
  ·simp only [mg, oN, h]
   simp
 ·have h' : ((((a.length : Nat) : Int) != ((b.length : Nat) : Int))) = true := by simp; omega
  simp only [h', if_true]
  rw [decide_eq_false h, Bool.false_and]
theorem Hq (y c : Cell) (k : Bool → Option R) (hN : big ≤ N) (hy : rL y) (hc : rL c) (h1 : y.Sets.length = c.Sets.length) (h2 : y.Msgs.length = c.Msgs.length) : rm N y.Rank y.Sets y.Msgs y.At c.Rank c.Sets c.Msgs c.At k = k (RQ y c) := by
 have hbig : big = 1000000000 := rfl
 have hB : B = 16386 := rfl
 have l1 := hy.1.1; have l2 := hy.2.1
 unfold rm RQ
 have m := FJ y.Msgs c.Msgs (fun p => BY p.1 p.2) (fun b => k b) (by omega) h2 (fun n i => ez N y.Rank y.Sets y.Msgs y.At c.Rank c.Sets c.Msgs c.At (k true) (fun z => k z) n i) (fun n i e g0 g1 g2 g3 g4 g5 => ?_) (fun n i h => ?_) N (by omega)
 rotate_left
 ·have e1 := hy.2.2 e.1 (List.of_mem_zip g5).1
  simp only [ez, kR, g2, g3, g4, if_true, Option.bind_some]
  rw [Nr _ _ _ hN (by omega)]
 ·simp only [ez, kR, h]
  simp
 have s := FJ y.Sets c.Sets (fun p => IH p.1 p.2) (fun b => if b = true then ez N y.Rank y.Sets y.Msgs y.At c.Rank c.Sets c.Msgs c.At (k true) (fun z => k z) N 0 else k false) (by omega) h1 (fun n i => il N y.Rank y.Sets y.Msgs y.At c.Rank c.Sets c.Msgs c.At (ez N y.Rank y.Sets y.Msgs y.At c.Rank c.Sets c.Msgs c.At (k true) (fun z => k z) N 0) (fun z => k z) n i) (fun n i e g0 g1 g2 g3 g4 g5 => ?_) (fun n i h => ?_) N (by omega)
 ·refine Eq.trans s ?_
  rw [m]
  cases (y.Sets.zip c.Sets).all fun p => IH p.1 p.2 <;> simp
 ·have e1 := hy.1.2 e.1 (List.of_mem_zip g5).1
  have e2 := hc.1.2 e.2 (List.of_mem_zip g5).2
  simp only [il, kQ, g2, g3, g4, if_true, Option.bind_some]
  rw [Pp _ _ _ hN (by omega) (by omega)]
  rfl
 ·simp only [il, kQ, h]
  simp
end
theorem Er {Cs : List Chart} {Is : List Inst} {Hs : List ai} {x : Cert} {c : Cell} (hf : ∀ n ∈ x.Insts, Flat ((cE Cs Is n).getD c0)) (h : tf Cs Is Hs x c = true) : (c.Sets.length = x.Insts.length ∧ c.Msgs.length = x.Chans.length) ∧ ∀ s ∈ c.Sets, s.Nodup := by
 unfold tf at h
 simp only [Bool.and_eq_true, decide_eq_true_eq] at h
 obtain ⟨⟨⟨h1, h2⟩, h3⟩, _⟩ := h
 refine ⟨⟨h1, h2⟩, fun s hs => ?_⟩
 obtain ⟨j, hj⟩ := List.getElem?_of_mem hs
 have hlt : j < x.Insts.length := by have := (List.getElem?_eq_some_iff.1 hj).1; omega
 have hz : (s, x.Insts[j]) ∈ c.Sets.zip x.Insts := by
  refine List.mem_of_getElem? (i := j) ?_
  rw [List.getElem?_zip_eq_some]
  exact ⟨hj, List.getElem?_eq_getElem hlt⟩
 unfold BZ at h3
 have := List.all_eq_true.1 h3 _ hz
 simp only [beq_iff_eq, Bool.and_eq_false_iff, decide_eq_false_iff_not, Bool.not_eq_false'] at this
 rcases this with h | h
 ·have : s = [] := List.eq_nil_of_length_eq_zero (by omega)
  subst this; exact List.nodup_nil
 ·have hfl := hf _ (List.getElem_mem hlt)
  exact ((AG s _ hfl.1 hfl.2.2).1 h).1.2
section
variable {R : Type} {N : Nat}
theorem Pq (x : Cert) (pre rest : List Cell) (c : Cell) (A : Int) (Cs : List Chart) (Is : List Inst) (Hs : List ai) (Es : List Cert) (k : Int → Option R) (hN : big ≤ N) (hc : Cs.length < big) (hi : Is.length < big) (hh : Hs.length < big) (hcs : ∀ c ∈ Cs, CL c) (hx : xx x) (h : x.Cells = pre ++ c :: rest)
  (hm : ∀ n ∈ x.Insts, (cE Cs Is n).isSome = true ∧ (flL ((cE Cs Is n).getD c0).States).any isH = false) (hch : ∀ n ∈ x.Chans, (Hs.any fun e => e.Name == n) = true) (hp : ∀ y ∈ pre, tf Cs Is Hs x y = true) :
  Bz N A Cs Is Hs Es x.Name x.Inst x.Req x.Resp x.Insts x.Chans x.Cells x.At pre.length k = k (qc Cs Is Hs x pre c).1 := by
 have hbig : big = 1000000000 := rfl
 have hB : B = 16386 := rfl
 obtain ⟨x1, x2, x3, x4⟩ := hx
 have hlen : x.Cells.length = pre.length + (rest.length + 1) := by rw [h]; simp
 have hat : at? x.Cells pre.length = some c := bf (by omega) (by rw [h]; simp)
 have hgood : ∀ n, CL ((cE Cs Is n).getD c0) := Aw Ms hcs
 have hflat : ∀ n ∈ x.Insts, Flat ((cE Cs Is n).getD c0) := fun n hn => Gx (hgood n) (hm n hn).2
 have hcm : rL c := x4 c (by rw [h]; simp)
 unfold Bz
 rw [hat, Option.bind_some]
 simp only [aZ, Option.bind_some]
 unfold qc
 have hcnd : (decide (c.Rank < 0) || decide (c.Rank > 64)) = !(decide (c.Rank ≥ 0) && decide (c.Rank ≤ 64)) := by
  rw [Bool.eq_iff_iff]
  simp only [Bool.or_eq_true, decide_eq_true_eq, Bool.not_eq_true', Bool.and_eq_false_iff, decide_eq_false_iff_not]
  omega
 rw [hcnd]
 rcases Bool.eq_false_or_eq_true (decide (c.Rank ≥ 0) && decide (c.Rank ≤ 64)) with h16 | h16
 rotate_left
 ·rw [h16, Bool.not_false, if_pos rfl, aT, aL (a := (16, c.At)) _ (by simp)]
 rw [h16, Bool.not_true, if_neg (by simp), bd, aG (ao (aK _ _ (by decide)) (aK _ _ (by decide)))]
 by_cases h1 : c.Sets.length = x.Insts.length
 rotate_left
 ·have e1 : (((((c.Sets.length : Nat) : Int) != ((x.Insts.length : Nat) : Int))) || ((((c.Msgs.length : Nat) : Int) != ((x.Chans.length : Nat) : Int)))) = true := by
   simp; omega
  have e2 : tf Cs Is Hs x c = false := by unfold tf; rw [decide_eq_false h1]; simp
  rw [e1, if_pos rfl, e2, aT, aL (a := (18, c.At)) _ (by simp)]
 by_cases h2 : c.Msgs.length = x.Chans.length
 rotate_left
 ·have e1 : (((((c.Sets.length : Nat) : Int) != ((x.Insts.length : Nat) : Int))) || ((((c.Msgs.length : Nat) : Int) != ((x.Chans.length : Nat) : Int)))) = true := by
   simp; omega
  have e2 : tf Cs Is Hs x c = false := by unfold tf; rw [decide_eq_false h2]; simp
  rw [e1, if_pos rfl, e2, aT, aL (a := (18, c.At)) _ (by simp)]
 have e1 : (((((c.Sets.length : Nat) : Int) != ((x.Insts.length : Nat) : Int))) || ((((c.Msgs.length : Nat) : Int) != ((x.Chans.length : Nat) : Int)))) = false := by simp [h1, h2]
 rw [e1, if_neg (by simp)]
 have hfe : tf Cs Is Hs x c = (BZ Cs Is x c && Hg Hs x c) := by
  unfold tf; rw [decide_eq_true h1, decide_eq_true h2]; simp
 have l1 := hcm.1.1; have l2 := hcm.2.1
 -- alike
 have l4 : tf Cs Is Hs x c = true → ∀ kk : Int → Option R, jv N pre.length x.Name x.Inst x.Req x.Resp x.Insts x.Chans x.Cells x.At c.Rank c.Sets c.Msgs c.At (kk 0) (fun z => kk z) N 0 = kk (chk (!pre.any fun y => xl c y) 8 c.At).1 := by
  intro hfit kk
  obtain ⟨⟨_, _⟩, hnd⟩ := Er hflat hfit
  have := search (l := pre) (fun y => xl c y) (fun j => if j < 0 then kk 0 else kk 8) (by omega) (fun n i => jv N pre.length x.Name x.Inst x.Req x.Resp x.Insts x.Chans x.Cells x.At c.Rank c.Sets c.Msgs c.At (kk 0) (fun z => kk z) n i) (fun n i e g0 g1 g2 g3 g4 => ?_) (fun n i g => ?_) N (by omega)
  ·refine Eq.trans this ?_
   rw [← jY]
   by_cases hz : idx (fun y => xl c y) pre < 0
   ·rw [if_pos hz, decide_eq_true hz, bd]
   ·rw [if_neg hz, decide_eq_false hz, aT]
  ·have hem := List.mem_of_getElem? g4
   have hi' : x.Cells[i.toNat]? = some e := by rw [h, List.getElem?_append_left (by omega)]; exact g4
   obtain ⟨⟨q1, q2⟩, q3⟩ := Er hflat (hp e hem)
   simp only [jv, pX, g2, bf g0 hi', if_true, Option.bind_some]
   rw [Hq e c _ hN (x4 e (by rw [h]; exact List.mem_append_left _ hem)) hcm (by omega) (by omega), Nq (by omega) (by omega) q3 hnd, if_neg (show ¬ i < 0 by omega)]
  ·simp only [jv, pX, g]
   simp
 generalize hk4 : jv N pre.length x.Name x.Inst x.Req x.Resp x.Insts x.Chans x.Cells x.At c.Rank c.Sets c.Msgs c.At (k 0) (fun z => k z) N 0 = rs4 at *
 have m := FJ c.Msgs x.Chans (fun p => match Hs.find? fun e => e.Name == p.2 with
 | some h => decide (((p.1.length : Nat) : Int) ≤ h.Cap)
 | none => false) (fun b => if b = true then rs4 else k 18) (by omega) h2 (fun n i => lr N pre.length A Cs Is Hs Es x.Name x.Inst x.Req x.Resp x.Insts x.Chans x.Cells x.At c.Rank c.Sets c.Msgs c.At rs4 (fun z => k z) n i) (fun n i e g0 g1 g2 g3 g4 g5 => ?_) (fun n i g => ?_) N (by omega)
 rotate_left
 ·have hany := hch e.2 (List.of_mem_zip g5).2
  simp only [lr, pW, g2, g3, g4, if_true, Option.bind_some]
  rw [zB _ _ _ _ _ _ _ hN hh]
  have hz : ¬ idx (fun y => y.Name == e.2) Hs < 0 := by
   intro hc
   have := jY (fun y : ai => y.Name == e.2) Hs
   rw [hany, decide_eq_true hc] at this
   cases this
  obtain ⟨y, y1, y2⟩ := qV hz
  rw [y1, Option.bind_some, y2]
  by_cases hcap : ((e.1.length : Nat) : Int) ≤ y.Cap
  ·simp [hcap, show ¬ ((e.1.length : Nat) : Int) > y.Cap by omega]
  ·simp [hcap, show ((e.1.length : Nat) : Int) > y.Cap by omega]
 ·simp only [lr, pW, g]
  simp
 generalize hk2 : lr N pre.length A Cs Is Hs Es x.Name x.Inst x.Req x.Resp x.Insts x.Chans x.Cells x.At c.Rank c.Sets c.Msgs c.At rs4 (fun z => k z) N 0 = rs2 at *
 have s := FJ c.Sets x.Insts (fun p => (decide (((p.1.length : Nat) : Int) > 0) && !mT ((cE Cs Is p.2).getD c0).States p.1) == false) (fun b => if b = true then rs2 else k 18) (by omega) h1 (fun n i => nX N pre.length A Cs Is Hs Es x.Name x.Inst x.Req x.Resp x.Insts x.Chans x.Cells x.At c.Rank c.Sets c.Msgs c.At rs2 (fun z => k z) n i) (fun n i e g0 g1 g2 g3 g4 g5 => ?_) (fun n i g => ?_) N (by omega)
 ·refine Eq.trans s ?_
  have m' : rs2 = if Hg Hs x c = true then rs4 else k 18 := m
  show (if BZ Cs Is x c = true then rs2 else k 18) = _
  rw [m', hfe]
  rw [hfe] at l4
  rcases Bool.eq_false_or_eq_true (BZ Cs Is x c) with hs | hs
  ·rw [hs, if_pos rfl, Bool.true_and]
   rw [hs, Bool.true_and] at l4
   split
   ·rename_i hmm
    rw [hmm, bd, aG (aK _ _ (by decide)), ← hk4, l4 hmm k]
   ·rename_i hmm
    rw [Bool.eq_false_iff.2 hmm, aT, aL (a := (18, c.At)) _ (by simp)]
  ·rw [hs, if_neg (by simp), Bool.false_and, aT, aL (a := (18, c.At)) _ (by simp)]
 ·have hin := (List.of_mem_zip g5).2
  have he := hcm.1.2 e.1 (List.of_mem_zip g5).1
  simp only [nX, pV, g2, g3, g4, if_true, Option.bind_some]
  rw [Cd _ _ _ _ _ _ _ hN hc hi (hm e.2 hin).1]
  dsimp only
  refine (RP ((cE Cs Is e.2).getD c0) e.1 _ hN (hgood e.2).1 (hflat e.2 hin) (by omega)).elim fun L hL => hL.trans ?_
  simp only [ax, Option.bind_some]
  cases (decide (((e.1.length : Nat) : Int) > 0) && !mT ((cE Cs Is e.2).getD c0).States e.1) <;> rfl
 ·simp only [nX, pV, g]
  simp
end
def qX (Cs : List Chart) (Is : List Inst) (Hs : List ai) (x : Cert) : Flt := orF (gP (Hh Cs Is x.At) [] x.Insts) (orF (MY Cs Is x) (orF (chk (!(x.Req == x.Resp)) 17 x.At) (gP (Dn Hs x) [] x.Chans)))
theorem Ps (Cs : List Chart) (Is : List Inst) (Hs : List ai) (x : Cert) : Gt Cs Is Hs x = orF (qX Cs Is Hs x) (gP (qc Cs Is Hs x) [] x.Cells) := by
 unfold Gt qX
 simp only [aO]
def AtF (a : Int) (f : Flt) : Prop := f.1 ≠ 0 → f.2 = a
theorem og (b : Bool) (c a : Int) : AtF a (chk b c a) := by
 unfold AtF chk
 split <;> simp
theorem pH {a : Int} {f g : Flt} (h1 : AtF a f) (h2 : AtF a g) : AtF a (orF f g) := by
 unfold orF
 split
 ·exact h2
 ·exact h1
theorem Kx {E : Type} {a : Int} {g : List E → E → Flt} (h : ∀ pre e, AtF a (g pre e)) : ∀ (r pre : List E), AtF a (gP g pre r)
 | [], pre => fun h => absurd rfl h
 | e :: r, pre => pH (h pre e) (Kx h r _)
theorem Ky (Cs : List Chart) (Is : List Inst) (Hs : List ai) (x : Cert) : AtF x.At (qX Cs Is Hs x) := by
 refine pH (Kx (fun pre e => pH (og _ _ _) (pH (og _ _ _) (og _ _ _))) _ _) (pH (og _ _ _) (pH (og _ _ _) (Kx (fun pre e => pH (og _ _ _) (pH (og _ _ _) ?_)) _ _)))
 split
 ·exact og _ _ _
 ·exact fun h => absurd rfl h
theorem Pt (Cs : List Chart) (Is : List Inst) (Hs : List ai) (x : Cert) (pre : List Cell) (c : Cell) : AtF c.At (qc Cs Is Hs x pre c) := pH (og _ _ _) (pH (og _ _ _) (og _ _ _))
theorem Kz (Cs : List Chart) (Is : List Inst) (Hs : List ai) (x : Cert) : Nf (qX Cs Is Hs x) := ao (fv (DH _ _ _) _ _) (ao (Hi _ _ _) (ao (aK _ _ (by decide)) (fv (yD _ _) _ _)))
theorem AJ (l : List (List UInt8)) (s : List UInt8) : (l.any fun e => e == s) = l.any fun e => s == e := by
 congr 1
 funext e
 rw [Bool.eq_iff_iff]
 simp only [beq_iff_eq]
 exact eq_comm
section
variable {R : Type} {N : Nat}
theorem II (x : Cert) (A : Int) (Cs : List Chart) (Is : List Inst) (Hs : List ai) (Es : List Cert) (k : Int → Option R) (hN : big ≤ N) (hc : Cs.length < big) (hi : Is.length < big) (hh : Hs.length < big) (hcs : ∀ c ∈ Cs, CL c) (hx : xx x) (hall : Iw Cs Is) :
  qz N A Cs Is Hs Es x.Name x.Inst x.Req x.Resp x.Insts x.Chans x.Cells x.At k = k (qX Cs Is Hs x).1 := by
 have hbig : big = 1000000000 := rfl
 have hB : B = 16386 := rfl
 obtain ⟨x1, x2, x3, x4⟩ := hx
 have hgood : ∀ n, CL ((cE Cs Is n).getD c0) := Aw Ms hcs
 -- channels
 have l3 := (uz (Dn Hs x) (yD Hs x) (fun _ => True) (fun c _ => k c) (l := x.Chans) (by omega) (fun n i => jq N A Cs Is Hs Es x.Name x.Inst x.Req x.Resp x.Insts x.Chans x.Cells x.At (k 0) (fun z => k z) n i) (fun n pre e rest h _ h1 h2 => ⟨?_, fun _ => trivial⟩) (k 0) (fun n h _ => ?_) trivial N (by omega)).1
 rotate_left
 ·have hpl : pre.length ≤ x.Chans.length := by rw [h]; simp
  simp only [jq, mc, h1, h2, if_true, Option.bind_some]
  rw [zB _ _ _ _ _ _ _ hN hh, jY, if_pos (g01 hpl), jZ h, eh _ _ _ hN (by omega), AJ]
  unfold Dn
  rcases Bool.eq_false_or_eq_true (Hs.any fun y => y.Name == e) with h7 | h7
  rotate_left
  ·rw [h7, Bool.not_false, if_pos rfl, aT, aL (a := (7, x.At)) _ (by simp), if_neg (by simp)]; rfl
  rw [h7, Bool.not_true, if_neg (by simp), bd]
  have hz : ¬ idx (fun y => y.Name == e) Hs < 0 := by
   intro hc
   have := jY (fun y : ai => y.Name == e) Hs
   rw [h7, decide_eq_true hc] at this
   cases this
  obtain ⟨y, y1, y2⟩ := qV hz
  rw [y2]
  dsimp only
  rw [aG (ao (aK _ _ (by decide)) (aK _ _ (by decide)))]
  rcases Bool.eq_false_or_eq_true (pre.any fun n => e == n) with h8 | h8
  ·rw [h8, if_pos rfl, Bool.not_true, aT, aL (a := (8, x.At)) _ (by simp), if_neg (by simp)]; rfl
  rw [h8, if_neg (by simp), Bool.not_false, bd, aG (aK _ _ (by decide)), y1, Option.bind_some, Option.bind_some, eh _ _ _ hN (by omega)]
  simp only [eh _ _ _ hN (show x.Insts.length < big by omega), aZ, Option.bind_some, AJ]
  rcases Bool.eq_false_or_eq_true ((x.Insts.any fun n => y.From == n) && x.Insts.any fun n => y.To == n) with hr | hr
  ·have h' := hr
   rw [Bool.and_eq_true] at h'
   rw [hr, h'.1, h'.2, bd]; simp
  ·rw [hr, aT]
   have h' := hr
   rw [Bool.and_eq_false_iff] at h'
   have : (!(x.Insts.any fun n => y.From == n) || !(x.Insts.any fun n => y.To == n)) = true := by
    rcases h' with h' | h' <;> simp [h']
   rw [this, if_pos rfl, if_neg (by simp)]; rfl
 ·simp only [jq, mc, h]
  simp
 have hl3 : ∀ f, f = gP (Dn Hs x) [] x.Chans → (if f.1 = 0 then k 0 else kf (fun c _ => k c) f) = k f.1 := by
  intro f _
  split
  ·rename_i hz; rw [hz]
  ·rfl
 rw [hl3 _ rfl] at l3
 have c12 : kl N A Cs Is Hs Es x.Name x.Inst x.Req x.Resp x.Insts x.Chans x.Cells x.At (fun z => k z) = k (orF (chk (!(x.Req == x.Resp)) 17 x.At) (gP (Dn Hs x) [] x.Chans)).1 := by
  unfold kl
  rcases Bool.eq_false_or_eq_true (x.Req == x.Resp) with h | h
  ·rw [h, if_pos rfl, Bool.not_true, aT, aL (a := (17, x.At)) _ (by simp)]
  ·rw [h, if_neg (by simp), Bool.not_false, bd, aG (fv (yD _ _) _ _)]
   exact l3
 generalize hK0 : (eW N x.Insts x.Inst (fun (r30 : Bool) =>
 (ifB (!r30) false (qN N A Cs Is Hs Es x.Inst (fun (r31 : List UInt8) (r32 : Int) (r33 : Int) (r34 : List af) (r35 : List af) (r36 : List af) (r37 : List State) (r38 : Int) =>
 pC N r31 r32 r33 r34 r35 r36 r37 r38 x.Req (fun (r39 : Bool) =>
 some (!r39)))) (some true)).bind fun c40 =>
 (ifB c40 false (qN N A Cs Is Hs Es x.Inst (fun (r41 : List UInt8) (r42 : Int) (r43 : Int) (r44 : List af) (r45 : List af) (r46 : List af) (r47 : List State) (r48 : Int) =>
 pC N r41 r42 r43 r44 r45 r46 r47 r48 x.Resp (fun (r49 : Bool) =>
 some (!r49)))) (some true)).bind fun c50 =>
 if c50 = true then
  (k 7)
 else
  (kl N A Cs Is Hs Es x.Name x.Inst x.Req x.Resp x.Insts x.Chans x.Cells x.At (fun (y88 : Int) =>
  k y88))) : Option R) = K0
 have l0 := (uz (Hh Cs Is x.At) (DH Cs Is x.At) (fun _ => True) (fun c _ => k c) (l := x.Insts) (by omega) (fun n i => jo N A Cs Is Hs Es x.Name x.Inst x.Req x.Resp x.Insts x.Chans x.Cells x.At K0 (fun z => k z) n i) (fun n pre e rest h _ h1 h2 => ⟨?_, fun _ => trivial⟩) K0 (fun n h _ => ?_) trivial N (by omega)).1
 ·unfold qz
  rw [hK0]
  refine Eq.trans l0 ?_
  unfold qX
  split
  ·rename_i hz
   have hm : ∀ n ∈ x.Insts, (cE Cs Is n).isSome = true ∧ (flL ((cE Cs Is n).getD c0).States).any isH = false := by
    intro n hn
    obtain ⟨p, hp⟩ := Cc _ _ _ hz n hn
    unfold Hh at hp
    obtain ⟨a1, a2⟩ := cz.1 hp
    have a3 := (cz.1 a2).2
    rw [sZ (by decide)] at a1 a3
    exact ⟨a1, by simpa using a3⟩
   rw [fv (DH _ _ _) _ _ hz, aG (ao (Hi _ _ _) (ao (aK _ _ (by decide)) (fv (yD _ _) _ _))), ← hK0, eh _ _ _ hN (by omega), AJ]
   unfold MY
   rcases Bool.eq_false_or_eq_true (x.Insts.any fun n => x.Inst == n) with hin | hin
   rotate_left
   ·rw [hin]
    rw [Bool.not_false, Bool.false_and, Bool.false_and, aT, aL (a := (7, x.At)) _ (by simp)]
    simp [ifB]
   ·obtain ⟨n, hn, he⟩ := List.any_eq_true.1 hin
    have : x.Inst = n := by simpa using he
    subst this
    obtain ⟨b1, b2⟩ := hm _ hn
    have hg := hgood x.Inst
    have hfl := Gx hg b2
    rw [hin, Cd _ _ _ _ _ _ _ hN hc hi b1, Cd _ _ _ _ _ _ _ hN hc hi b1]
    dsimp only
    rw [Gy _ _ _ hN hg.1 hfl, Gy _ _ _ hN hg.1 hfl]
    simp only [aZ, Option.bind_some, Bool.not_true, Bool.false_or, Bool.true_and]
    rw [c12]
    rcases Bool.eq_false_or_eq_true (((flL ((cE Cs Is x.Inst).getD c0).States).any fun e => e.Name == x.Req) && (flL ((cE Cs Is x.Inst).getD c0).States).any fun e => e.Name == x.Resp) with hr | hr
    ·have h' := hr
     rw [Bool.and_eq_true] at h'
     rw [hr, h'.1, h'.2, bd, aG (ao (aK _ _ (by decide)) (fv (yD _ _) _ _))]; simp
    ·rw [hr, aT, aL (a := (7, x.At)) _ (by simp)]
     have h' := hr
     rw [Bool.and_eq_false_iff] at h'
     have : (!((flL ((cE Cs Is x.Inst).getD c0).States).any fun e => e.Name == x.Req) || !((flL ((cE Cs Is x.Inst).getD c0).States).any fun e => e.Name == x.Resp)) = true := by
      rcases h' with h' | h' <;> simp [h']
     rw [this, if_pos rfl]
  ·rename_i hz
   rw [aL _ hz]; rfl
 ·have hpl : pre.length ≤ x.Insts.length := by rw [h]; simp
  simp only [jo, mb, h1, h2, if_true, Option.bind_some]
  rw [vz _ _ _ _ _ _ _ hN hi, jY, if_pos (g01 hpl), jZ h, eh _ _ _ hN (by omega), AJ, ← tg hall e]
  unfold Hh
  rcases Bool.eq_false_or_eq_true (cE Cs Is e).isSome with h7 | h7
  rotate_left
  ·rw [h7, Bool.not_false, if_pos rfl, aT, aL (a := (7, x.At)) _ (by simp), if_neg (by simp)]; rfl
  rw [h7, Bool.not_true, if_neg (by simp), bd, aG (ao (aK _ _ (by decide)) (aK _ _ (by decide)))]
  rcases Bool.eq_false_or_eq_true (pre.any fun n => e == n) with h8 | h8
  ·rw [h8, if_pos rfl, Bool.not_true, aT, aL (a := (8, x.At)) _ (by simp), if_neg (by simp)]; rfl
  have hst := (hgood e).1
  have hs4 := hst.2.2.2.1
  rw [h8, if_neg (by simp), Bool.not_false, bd, aG (aK _ _ (by decide)), Cd _ _ _ _ _ _ _ hN hc hi h7]
  dsimp only
  rw [Pc hN _ _ (by omega) hst.2.2.2.2]
  rcases Bool.eq_false_or_eq_true ((flL ((cE Cs Is e).getD c0).States).any isH) with h17 | h17
  ·rw [h17, if_pos rfl, Bool.not_true, aT, if_neg (by simp)]; rfl
  ·rw [h17, if_neg (by simp), Bool.not_false, bd, if_pos rfl]
 ·simp only [jo, mb, h]
  simp
theorem Ns (A : Int) (Cs : List Chart) (Is : List Inst) (Hs : List ai) (Es : List Cert) (k : Int → Int → Option R) (hN : big ≤ N) (hc : Cs.length < big) (hi : Is.length < big) (hh : Hs.length < big) (he : Es.length < big) (hcs : ∀ c ∈ Cs, CL c) (hes : ∀ x ∈ Es, xx x) (hall : Iw Cs Is) :
  yI N A Cs Is Hs Es k = kf k (gP (xm Cs Is Hs) [] Es) := by
 have hbig : big = 1000000000 := rfl
 have hB : B = 16386 := rfl
 unfold yI
 have := (uz (xm Cs Is Hs) (Az Cs Is Hs) (fun _ => True) k he (fun n i => jS N A Cs Is Hs Es 0 0 (k 0 0) (fun y z => k y z) n i) (fun n pre x rest h _ h1 h2 => ⟨?_, fun _ => trivial⟩) (k 0 0) (fun n h _ => ?_) trivial N (by omega)).1
 ·rw [Gu (fv (Az _ _ _) _ _)] at this
  exact this
 ·have hxok := hes x (by rw [h]; simp)
  have hlen : Es.length = pre.length + (rest.length + 1) := by rw [h]; simp
  simp only [jS, oR, h1, h2, if_true, Option.bind_some]
  generalize hrec : jS N A Cs Is Hs Es 0 0 (k 0 0) (fun y z => k y z) n (IntKind.wrap .i64 (((pre.length : Nat) : Int) + 1)) = rec
  -- cells
  have l4 : (qX Cs Is Hs x).1 = 0 → iI N pre.length A Cs Is Hs Es 0 0 x.Name x.Inst x.Req x.Resp x.Insts x.Chans x.Cells x.At rec (fun (y49 : Int) (y50 : Int) => k y49 y50) N 0 = if (gP (qc Cs Is Hs x) [] x.Cells).1 = 0 then rec else kf k (gP (qc Cs Is Hs x) [] x.Cells) := by
   intro hz
   unfold qX at hz
   obtain ⟨z1, z2⟩ := cz.1 hz
   have z3 := (cz.1 (cz.1 z2).2).2
   have hm : ∀ n ∈ x.Insts, (cE Cs Is n).isSome = true ∧ (flL ((cE Cs Is n).getD c0).States).any isH = false := by
    intro n hn
    obtain ⟨p, hp⟩ := Cc _ _ _ z1 n hn
    unfold Hh at hp
    obtain ⟨a1, a2⟩ := cz.1 hp
    have a3 := (cz.1 a2).2
    rw [sZ (by decide)] at a1 a3
    exact ⟨a1, by simpa using a3⟩
   have hch : ∀ n ∈ x.Chans, (Hs.any fun e => e.Name == n) = true := by
    intro n hn
    obtain ⟨p, hp⟩ := Cc _ _ _ z3 n hn
    unfold Dn at hp
    have a1 := (cz.1 hp).1
    rwa [sZ (by decide)] at a1
   have hxl := hxok.2.2.1
   refine (uz (qc Cs Is Hs x) (Ec Cs Is Hs x) (fun p => ∀ y ∈ p, tf Cs Is Hs x y = true) k (l := x.Cells) (by omega) (fun n i => iI N pre.length A Cs Is Hs Es 0 0 x.Name x.Inst x.Req x.Resp x.Insts x.Chans x.Cells x.At rec (fun (y49 : Int) (y50 : Int) => k y49 y50) n i) (fun n p c r hh1 hinv q1 q2 => ⟨?_, fun hz y hy => ?_⟩) rec (fun n h _ => ?_) (fun y hy => by cases hy) N (by omega)).1
   ·simp only [iI, oP, q1, if_true, Option.bind_some]
    rw [Pq x p r c A Cs Is Hs Es _ hN hc hi hh hcs hxok hh1 hm hch hinv, q2, Option.bind_some]
    have hat := Pt Cs Is Hs x p c
    generalize qc Cs Is Hs x p c = f at *
    by_cases hf : f.1 = 0
    ·rw [hf, if_neg (by simp), if_pos rfl]
    ·rw [if_pos (by simpa using hf), if_neg hf, bc, hat hf]
   ·rcases List.mem_append.1 hy with hy | hy
    ·exact hinv y hy
    ·rw [List.mem_singleton.1 hy]
     unfold qc at hz
     have a1 := (cz.1 (cz.1 hz).2).1
     rwa [sZ (by decide)] at a1
   ·simp only [iI, oP, h]
    simp
  generalize hK : (qz N A Cs Is Hs Es x.Name x.Inst x.Req x.Resp x.Insts x.Chans x.Cells x.At (fun (r29 : Int) =>
 if (r29 != 0) = true then
  (k r29 x.At)
 else
  (iI N pre.length A Cs Is Hs Es 0 0 x.Name x.Inst x.Req x.Resp x.Insts x.Chans x.Cells x.At rec
  (fun (y49 : Int) (y50 : Int) =>
 k y49 y50) N 0)) : Option R) = rst
  have hs := search (l := pre) (fun e => e.Name == x.Name) (fun j => if j < 0 then rst else k 8 x.At) (by omega) (fun n i => mh N pre.length A Cs Is Hs Es 0 0 x.Name x.Inst x.Req x.Resp x.Insts x.Chans x.Cells x.At rst (fun y => k y x.At) n i) (fun n i e g0 g1 g2 g3 g4 => ?_) (fun n i hd => ?_) N (by omega)
  ·refine Eq.trans hs ?_
   have hany := jY (fun e : Cert => e.Name == x.Name) pre
   unfold xm
   by_cases hz : idx (fun e : Cert => e.Name == x.Name) pre < 0
   ·have ha : (pre.any fun e => e.Name == x.Name) = false := by
     rw [decide_eq_true hz] at hany
     simpa using hany.symm
    rw [if_pos hz, ha, Bool.not_false, bd, aG (It _ _ _ _), ← hK, II x A Cs Is Hs Es _ hN hc hi hh hcs hxok hall, Ps]
    have hat := Ky Cs Is Hs x
    have hnf := Kz Cs Is Hs x
    generalize qX Cs Is Hs x = f at *
    by_cases hf : f.1 = 0
    ·rw [hf, if_neg (by simp), l4 hf, hnf hf, aG (fv (Ec _ _ _ _) _ _)]
    ·rw [if_pos (by simpa using hf), aL _ hf, if_neg hf, bc, hat hf]
   ·have ha : (pre.any fun e => e.Name == x.Name) = true := by
     rw [decide_eq_false hz] at hany
     simpa using hany.symm
    rw [if_neg hz, ha, Bool.not_true, aT, aL (a := (8, x.At)) _ (by simp), if_neg (by simp)]; rfl
  ·have hi : Es[i.toNat]? = some e := by rw [h, List.getElem?_append_left (by omega)]; exact g4
   simp only [mh, oO, g2, bf g0 hi, if_true, Option.bind_some]
   by_cases hn : (e.Name == x.Name) = true
   ·rw [if_pos hn, if_pos hn, if_neg (by omega)]
   ·rw [if_neg hn, if_neg hn]
  ·simp only [mh, oO, hd]
   simp
 ·simp only [jS, oR, h]
  simp
theorem Nt (s : System) (k : Int → Int → Option R) (hN : big ≤ N) (hs : Ew s) : r12_Check N s.Age s.Charts s.Insts s.Chans s.Certs k = kf k (RB s) := by
 have hbig : big = 1000000000 := rfl
 have hB : B = 16386 := rfl
 obtain ⟨A, Cs, Is, Hs, Es⟩ := s
 obtain ⟨b1, b2, b3, b4, b5, b6⟩ := hs
 dsimp only at b1 b2 b3 b4 b5 b6 ⊢
 unfold r12_Check RB
 simp only [aZ, Option.bind_some]
 have nc := fv Ca Cs []
 have ni := fv (Ax Cs) Is []
 have nh := fv (Ay Cs Is) Hs []
 have nj := fv (fun _ x => xn Cs Is Hs x) Is []
 have ne := fv (Az Cs Is Hs) Es []
 have hcnd : (decide (A < 1) || decide (A > 65536)) = !(decide (A ≥ 1) && decide (A ≤ 65536)) := by
  rw [Bool.eq_iff_iff]
  simp only [Bool.or_eq_true, decide_eq_true_eq, Bool.not_eq_true', Bool.and_eq_false_iff, decide_eq_false_iff_not]
  omega
 rw [hcnd]
 rcases Bool.eq_false_or_eq_true (decide (A ≥ 1) && decide (A ≤ 65536)) with h16 | h16
 rotate_left
 ·rw [h16, Bool.not_false, if_pos rfl, aT, aL (a := (16, 0)) _ (by simp)]; rfl
 rw [h16, Bool.not_true, if_neg (by simp), bd, aG (ao (aK _ _ (by decide)) (ao nc (ao ni (ao nh (ao nj ne)))))]
 by_cases h7 : Is.length = 0
 ·rw [if_pos (by simp [h7]), decide_eq_false (by omega), aT, aL (a := (7, 0)) _ (by simp)]; rfl
 rw [if_neg (by simpa using h7), decide_eq_true (by omega), bd, aG (ao nc (ao ni (ao nh (ao nj ne))))]
 generalize hK : (uX N A Cs Is Hs Es (fun (r14 : Int) (r15 : Int) =>
 if (r14 == 0) = true then
  (uZ N A Cs Is Hs Es (fun (r16 : Int) (r17 : Int) =>
  iR N A Cs Is Hs Es 0 0 r16 r17 (fun (y29 : Int) (y30 : Int) =>
  k y29 y30)))
 else
  (iR N A Cs Is Hs Es 0 0 r14 r15 (fun (y31 : Int) (y32 : Int) =>
  k y31 y32))) : Option R) = K0
 have l0 := (uz tO Ca (fun _ => True) k (l := Cs) (by omega) (fun n i => mi N A Cs Is Hs Es 0 0 K0 (fun y z => k y z) n i) (fun n pre x rest h _ h1 h2 => ⟨?_, fun _ => trivial⟩) K0 (fun n h _ => ?_) trivial N (by omega)).1
 ·refine Eq.trans l0 ?_
  split
  ·rename_i hz
   have hgood := RO hz b5
   rw [nc hz, aG (ao ni (ao nh (ao nj ne))), ← hK, Ni _ _ _ _ _ _ hN (by omega) (by omega), bc]
   by_cases hi0 : (gP (wF Cs) [] Is).1 = 0
   ·have hall := Uz hi0
    rw [if_pos (by simp [hi0]), ni hi0, aG (ao nh (ao nj ne)), Nj _ _ _ _ _ _ hN (by omega) (by omega) (by omega) (fun c hc => (b5 c hc).to) hall, bc, ← aO]
    have nhj := ao nh nj
    generalize orF (gP (wG Cs Is) [] Hs) (gP (fun _ x => te Cs Is Hs x) [] Is) = f at *
    unfold iR
    by_cases hf : f.1 = 0
    ·rw [if_pos (by simp [hf]), nhj hf, aG ne, Ns _ _ _ _ _ _ hN (by omega) (by omega) (by omega) (by omega) hgood b6 hall]
    ·rw [if_neg (by simp [hf]), aL _ hf]; rfl
   ·rw [if_neg (by simp [hi0]), aL _ hi0]
    unfold iR
    rw [if_neg (by simp [hi0])]; rfl
  ·rename_i hz
   rw [aL _ hz]
 ·simp only [mi, oS, h1, if_true, Option.bind_some]
  rw [Nh pre x rest Cs _ hN (by omega) (b5 x (by rw [h]; simp)) h, bc]
  generalize tO pre x = f at *
  by_cases hf : f.1 = 0
  ·rw [hf, if_neg (by simp), if_pos rfl]
  ·rw [if_pos (by simpa using hf), if_neg hf]; rfl
 ·simp only [mi, oS, h]
  simp
end
end So
