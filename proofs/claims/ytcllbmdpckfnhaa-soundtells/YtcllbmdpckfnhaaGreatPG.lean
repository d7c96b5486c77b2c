/- The reference's check in plain words: configurations, by places. -/
import Derived.Test.YtcllbmdpckfnhaaGreatPF
set_option maxRecDepth 1000000
set_option linter.unusedVariables false
set_option linter.unusedSimpArgs false
namespace So
open Go TE Go.Proofs
def hasI (l : List Int) (q : Int) : Bool := l.any fun e => e == q
theorem hasI_mem {l : List Int} {q : Int} : hasI l q = true ↔ q ∈ l := by
 unfold hasI
 rw [List.any_eq_true]
 constructor
 ·rintro ⟨x, hx, h⟩; simp only [beq_iff_eq] at h; exact h ▸ hx
 ·intro h; exact ⟨q, h, by simp⟩
def ofF (all : List Int) : Nat → Int → List Int
 | 0, _ => []
 | m + 1, i => (if hasI all i = true then [i] else []) ++ ofF all m (i + 1)
def ofL (all : List Int) : List Int := ofF all 128 0
theorem ofF_mem (all : List Int) : ∀ (m : Nat) (i q : Int), q ∈ ofF all m i ↔ (i ≤ q ∧ q < i + m) ∧ q ∈ all
 | 0, i, q => by simp [ofF]; omega
 | m + 1, i, q => by
  simp only [ofF, List.mem_append, ofF_mem all m (i + 1) q]
  by_cases hq : q = i
  ·subst hq
   by_cases h : hasI all q = true
   ·simp [h, hasI_mem.1 h]; omega
   ·have : q ∉ all := fun hc => h (hasI_mem.2 hc)
    simp [h, this]
  ·by_cases h : hasI all i = true
   ·simp [h, hq]; omega
   ·simp [h]; omega
theorem ofF_sorted (all : List Int) : ∀ (m : Nat) (i : Int), (ofF all m i).Pairwise (· < ·)
 | 0, i => by simp [ofF]
 | m + 1, i => by
  simp only [ofF]
  rw [List.pairwise_append]
  refine ⟨by split <;> simp, ofF_sorted all m (i + 1), fun a ha b hb => ?_⟩
  have hb' := (ofF_mem all m (i + 1) b).1 hb
  split at ha
  ·simp only [List.mem_singleton] at ha; omega
  ·simp at ha
theorem ofF_len (all : List Int) : ∀ (m : Nat) (i : Int), (ofF all m i).length ≤ m
 | 0, i => by simp [ofF]
 | m + 1, i => by
  have := ofF_len all m (i + 1)
  simp only [ofF, List.length_append]
  split <;> simp <;> omega
def kI (q : Int) : Int → List Node → List Int
 | _, [] => []
 | i, x :: r => (if (x.Parent == q) = true then [i] else []) ++ kI q (i + 1) r
theorem kI_mem (q : Int) : ∀ (l : List Node) (i k : Int), k ∈ kI q i l → ∃ x, i ≤ k ∧ l[(k - i).toNat]? = some x ∧ x.Parent = q
 | x :: r, i, k, h => by
  simp only [kI, List.mem_append] at h
  rcases h with h | h
  ·split at h
   ·rename_i hp
    simp only [List.mem_singleton] at h
    subst h
    exact ⟨x, by omega, by simp, by simpa using hp⟩
   ·simp at h
  ·obtain ⟨y, h1, h2, h3⟩ := kI_mem q r (i + 1) k h
   refine ⟨y, by omega, ?_, h3⟩
   rw [show (k - i).toNat = (k - (i + 1)).toNat + 1 by omega]
   simpa using h2
theorem kI_len (q : Int) : ∀ (l : List Node) (i : Int), (kI q i l).length ≤ l.length
 | [], i => by simp [kI]
 | x :: r, i => by
  have := kI_len q r (i + 1)
  simp only [kI, List.length_append, List.length_cons]
  split <;> simp <;> omega
def parI (nd : List Node) (k : Int) : Int := ((nd[k.toNat]?).map (·.Parent)).getD (-1)
def kdI (nd : List Node) (k : Int) : Int := ((nd[k.toNat]?).map (·.Kind)).getD 0
def chn (par : Int → Int) : Nat → Int → List Int
 | 0, _ => []
 | m + 1, k => if k < 0 then [] else k :: chn par m (par k)
theorem chn_len (par : Int → Int) : ∀ (m : Nat) (k : Int), (chn par m k).length ≤ m
 | 0, _ => by simp [chn]
 | m + 1, k => by
  have := chn_len par m (par k)
  simp only [chn]
  split <;> simp; omega
def NdOk (nd : List Node) : Prop := nd.length ≤ 64 ∧ ∀ (i : Nat) x, nd[i]? = some x → x.Kind ≤ 3 ∧ -1 ≤ x.Parent ∧ x.Parent < i ∧ (0 < i → 0 ≤ x.Parent)
def condB (nd : List Node) (conf : List Int) (q : Int) : Bool := !((kdI nd q == 2) && ((((kI q 0 nd).filter (hasI conf)).length : Int) != 1)) && !((kdI nd q == 3) && ((((kI q 0 nd).filter (hasI conf)).length : Int) != (((kI q 0 nd).length : Nat) : Int)))
def badA (nd : List Node) (pre : List Int) (a : Int) : Bool := !(decide (a ≥ 0) && decide (a < ((nd.length : Nat) : Int))) || (kdI nd a != 1) || hasI pre a
def okA (nd : List Node) : List Int → List Int → Bool
 | _, [] => true
 | pre, a :: r => !badA nd pre a && okA nd (pre ++ [a]) r
def allA (nd : List Node) (l : List Int) : List Int := l.flatMap fun a => chn (parI nd) 64 a
def fullB (nd : List Node) (atoms : List Int) : Bool := okA nd [] atoms && (hasI (ofL (allA nd atoms)) 0 && (ofL (allA nd atoms)).all (condB nd (ofL (allA nd atoms))))
section
variable {R : Type} {N : Nat}
theorem rof_eq (all : List Int) (k : List Int → Option R) (hN : big ≤ N) (hl : all.length < big) : r3_Of N all k = k (ofL all) := by
 have hb : big = 1000000000 := rfl
 unfold r3_Of
 have key : ∀ (m n : Nat) (i : Int) (out : List Int), i + m = 128 → 0 ≤ i → (out.length : Int) ≤ i → m < n → r3_Of_l0 N all (fun y => k y) n i out = k (out ++ ofF all m i) := by
  intro m
  induction m with
  | zero =>
   intro n i out h h0 ho hn
   obtain ⟨n, rfl⟩ : ∃ q, n = q + 1 := ⟨n - 1, by omega⟩
   have : decide (i < 128) = false := by simp; omega
   simp [r3_Of_l0, r3_Of_l0_b, this, ofF]
  | succ m ih =>
   intro n i out h h0 ho hn
   obtain ⟨n, rfl⟩ : ∃ q, n = q + 1 := ⟨n - 1, by omega⟩
   have : decide (i < 128) = true := by simp; omega
   simp only [r3_Of_l0, r3_Of_l0_b, this, if_true]
   rw [r3has_eq _ _ _ hN hl, wr (i + 1) (by omega) (by omega)]
   simp only [ofF]
   by_cases hh : hasI all i = true
   ·rw [if_pos (show (all.any fun e => e == i) = true from hh), if_pos hh, if_pos (by simp [maxRow]; omega), ih n (i + 1) _ (by omega) (by omega) (by simp; omega) (by omega)]
    simp
   ·rw [if_neg (show ¬ (all.any fun e => e == i) = true from hh), if_neg hh, ih n (i + 1) _ (by omega) (by omega) (by omega) (by omega)]
    simp
 have := key 128 N 0 [] (by omega) (by omega) (by simp) (by omega)
 simpa [ofL] using this
theorem rnot_eq (a b : List Int) (k : List Int → Option R) (hN : big ≤ N) (ha : a.length < big) (hb' : b.length < big) : r3_Not N a b k = k (a.filter fun x => !hasI b x) := by
 have hb : big = 1000000000 := rfl
 unfold r3_Not
 have := foldsI (fun _ e (o : List Int) => if hasI b e = true then o else o ++ [e]) (fun pre o => o.length ≤ pre.length) k (l := a) ha (fun n i o => r3_Not_l0 N a b (fun y => k y) n i o) (fun n pre e rest o h hi h1 h2 => ⟨?_, by split <;> simp <;> omega⟩) (fun n o hi => ?_) a [] [] N rfl (by simp) (by omega)
 ·rw [foldP_foldl (fun (o : List Int) e => if hasI b e = true then o else o ++ [e])] at this
  refine Eq.trans this ?_
  congr 1
  have : ∀ (l o : List Int), l.foldl (fun (o : List Int) e => if hasI b e = true then o else o ++ [e]) o = o ++ l.filter fun x => !hasI b x := by
   intro l
   induction l with
   | nil => intro o; simp
   | cons x r ih =>
    intro o
    simp only [List.foldl_cons, ih, List.filter_cons]
    cases hasI b x <;> simp
  simpa using this a []
 ·have : pre.length ≤ a.length := by rw [h]; simp
  simp only [r3_Not_l0, r3_Not_l0_b, h1, h2, if_true, Option.bind_some]
  rw [r3has_eq _ _ _ hN hb']
  by_cases hh : hasI b e = true
  ·rw [if_neg (by rw [show (b.any fun x => x == e) = true from hh]; simp), if_pos hh]
  ·rw [if_pos (by rw [show (b.any fun x => x == e) = false from Bool.eq_false_iff.2 hh]; rfl), if_neg hh, if_pos (by simp [maxRow]; omega)]
 ·simp only [r3_Not_l0, r3_Not_l0_b]
  simp
theorem rand_eq (a b : List Int) (k : List Int → Option R) (hN : big ≤ N) (ha : a.length < big) (hb' : b.length < big) : r3_And N a b k = k (a.filter (hasI b)) := by
 unfold r3_And
 have h1 := List.length_filter_le (fun x => !hasI b x) a
 rw [rnot_eq _ _ _ hN ha hb', rnot_eq _ _ _ hN ha (by omega)]
 congr 1
 apply List.filter_congr
 intro x hx
 rw [Bool.eq_iff_iff]
 constructor
 ·intro h
  rcases Bool.eq_false_or_eq_true (hasI b x) with h' | h'
  ·exact h'
  ·exfalso
   have : x ∈ a.filter fun x => !hasI b x := List.mem_filter.2 ⟨hx, by simp [h']⟩
   rw [hasI_mem.2 this] at h
   simp at h
 ·intro h
  have : ¬ hasI (a.filter fun x => !hasI b x) x = true := by
   rw [hasI_mem, List.mem_filter]
   rintro ⟨_, h2⟩
   simp [h] at h2
  simpa using this
theorem rkids_eq (nd : List Node) (q : Int) (k : List Int → Option R) (hN : big ≤ N) (hl : nd.length ≤ 64) (h0 : 0 ≤ q) (h1 : q < nd.length) : r13_Kids N nd q k = k (kI q 0 nd) := by
 have hb : big = 1000000000 := rfl
 unfold r13_Kids
 have his : ∀ kk : Bool → Option Bool, r13_Is N nd q kk = kk true := by
  intro kk
  unfold r13_Is
  have d1 : decide (q ≥ 0) = true := by simpa using h0
  have d2 : decide (q < ((nd.length : Nat) : Int)) = true := by simpa using h1
  simp [d1, d2, ifB]
 have key : ∀ (rest pre : List Node) (n : Nat) (out : List Int), nd = pre ++ rest → rest.length < n → out.length ≤ pre.length → r13_Kids_l0 N nd q (fun y => k y) n pre.length out = k (out ++ kI q pre.length rest) := by
  intro rest
  induction rest with
  | nil =>
   intro pre n out h hn ho
   obtain ⟨n, rfl⟩ : ∃ m, n = m + 1 := ⟨n - 1, by omega⟩
   have : nd = pre := by simpa using h
   subst this
   simp [r13_Kids_l0, r13_Kids_l0_b, kI, ifB]
  | cons e r ih =>
   intro pre n out h hn ho
   obtain ⟨n, rfl⟩ : ∃ m, n = m + 1 := ⟨n - 1, by omega⟩
   have hlen : nd.length = pre.length + (r.length + 1) := by rw [h]; simp
   have hat : at? nd pre.length = some e := at_some (by omega) (by rw [h]; simp)
   have hd : decide (((pre.length : Nat) : Int) < ((nd.length : Nat) : Int)) = true := by simp; omega
   have hr : IntKind.wrap .i64 (((pre.length : Nat) : Int) + 1) = (((pre ++ [e]).length : Nat) : Int) := by rw [wr _ (by omega) (by omega)]; simp
   have hr' : (((pre ++ [e]).length : Nat) : Int) = ((pre.length : Nat) : Int) + 1 := by simp
   simp only [r13_Kids_l0, r13_Kids_l0_b, hd, his, hat, ifB_and, Bool.true_and, Option.bind_some, if_true, hr, kI]
   by_cases hp : (e.Parent == q) = true
   ·rw [if_pos hp, if_pos hp, if_pos (by simp [maxRow]; omega), ih (pre ++ [e]) n _ (by rw [h]; simp) (by simp at hn; omega) (by simp; omega), hr']
    simp
   ·rw [if_neg hp, if_neg hp, ih (pre ++ [e]) n _ (by rw [h]; simp) (by simp at hn; omega) (by simp; omega), hr']
    simp
 have := key nd [] N [] rfl (by omega) (by simp)
 simpa using this
theorem rstates_eq (nd : List Node) (q : Int) (k : List Int → Option R) (hN : big ≤ N) (hl : NdOk nd) (h0 : 0 ≤ q) (h1 : q < nd.length) : r13_States N nd q k = k (kI q 0 nd) := by
 have hb : big = 1000000000 := rfl
 unfold r13_States
 have hkl := kI_len q nd 0
 rw [rkids_eq nd q _ hN hl.1 h0 h1]
 have hl1 := hl.1
 have := foldsI (fun _ e (o : List Int) => o ++ [e]) (fun pre o => o.length ≤ pre.length) k (l := kI q 0 nd) (by omega) (fun n i o => r13_States_l0 N nd (kI q 0 nd) (fun y => k y) n i o) (fun n pre e rest o h hi h1 h2 => ⟨?_, by simp; omega⟩) (fun n o hi => ?_) (kI q 0 nd) [] [] N rfl (by simp) (by omega)
 ·rw [foldP_foldl (fun (o : List Int) e => o ++ [e])] at this
  refine Eq.trans this ?_
  congr 1
  have : ∀ (l o : List Int), l.foldl (fun (o : List Int) e => o ++ [e]) o = o ++ l := by
   intro l
   induction l with
   | nil => intro o; simp
   | cons x r ih => intro o; simp only [List.foldl_cons, ih]; simp
  simpa using this (kI q 0 nd) []
 ·have hm : e ∈ kI q 0 nd := by rw [h]; simp
  obtain ⟨x, x1, x2, _⟩ := kI_mem q nd 0 e hm
  have x2' : nd[e.toNat]? = some x := by simpa using x2
  have hp : pre.length ≤ (kI q 0 nd).length := by rw [h]; simp
  have hk := (hl.2 _ _ x2').1
  simp only [r13_States_l0, r13_States_l0_b, h1, h2, at_some x1 x2', if_true, Option.bind_some]
  rw [if_pos (by simpa using hk), if_pos (by simp [maxRow]; omega)]
 ·simp only [r13_States_l0, r13_States_l0_b]
  simp
theorem gP_all {E : Type} (c : E → Bool) : ∀ (l pre : List E), (gP (fun _ q => chk (c q) 1 0) pre l).1 = 0 ↔ l.all c = true
 | [], pre => by simp [gP]
 | e :: r, pre => by
  simp only [gP, orF_fst, List.all_cons, Bool.and_eq_true, gP_all c r, chk_fst (show (1 : Int) ≠ 0 by decide)]
theorem rlegal_eq (nd : List Node) (conf : List Int) (k : Bool → Option R) (hN : big ≤ N) (hl : NdOk nd) (hcl : conf.length < big) (hs : conf.Pairwise (· < ·)) (hv : ∀ q ∈ conf, 0 ≤ q ∧ q < nd.length) (hp : ∀ q ∈ conf, 0 < q → parI nd q ∈ conf) :
  r13_Legal N nd conf k = k (hasI conf 0 && conf.all (condB nd conf)) := by
 have hb : big = 1000000000 := rfl
 unfold r13_Legal
 rw [r3has_eq _ _ _ hN hcl]
 rcases Bool.eq_false_or_eq_true (hasI conf 0) with h0 | h0
 rotate_left
 ·rw [show (conf.any fun e => e == 0) = false from h0, h0]; rfl
 rw [show (conf.any fun e => e == 0) = true from h0, h0, Bool.not_true, if_neg (by simp), Bool.true_and]
 have := (walks (l := conf) (fun _ q => chk (condB nd conf q) 1 0) (fun _ _ => Nf_chk _ _ (by decide)) (fun _ => True) (fun _ _ => k false) hcl (fun n i => r13_Legal_l0 N nd conf (k true) (fun y => k y) n i) (fun n pre q rest h _ h1 h2 => ⟨?_, fun _ => trivial⟩) (k true) (fun n h _ => ?_) trivial N (by omega)).1
 ·refine Eq.trans this ?_
  by_cases hz : (gP (fun _ q => chk (condB nd conf q) 1 0) [] conf).1 = 0
  ·rw [if_pos hz, (gP_all _ _ _).1 hz]
  ·rw [if_neg hz]
   have : conf.all (condB nd conf) = false := by
    rcases Bool.eq_false_or_eq_true (conf.all (condB nd conf)) with h' | h'
    ·exact absurd ((gP_all _ _ []).2 h') hz
    ·exact h'
   rw [this]; rfl
 ·have hm : q ∈ conf := by rw [h]; simp
  obtain ⟨v0, v1⟩ := hv q hm
  obtain ⟨x, hx, hx'⟩ := at_lt v0 v1
  have hxo := hl.2 _ _ hx'
  have hkd : kdI nd q = x.Kind := by unfold kdI; rw [hx']; rfl
  have hpr : parI nd q = x.Parent := by unfold parI; rw [hx']; rfl
  have hkl := kI_len q nd 0
  have hl1 := hl.1
  have his : ∀ kk : Bool → Option R, r13_Is N nd q kk = kk true := by
   intro kk
   unfold r13_Is
   have d1 : decide (q ≥ 0) = true := by simpa using v0
   have d2 : decide (q < ((nd.length : Nat) : Int)) = true := by simpa using v1
   simp [d1, d2, ifB]
  simp only [r13_Legal_l0, r13_Legal_l0_b, h1, h2, if_true, Option.bind_some]
  rw [his]
  -- the order
  have hord : (ifB (decide (((pre.length : Nat) : Int) > 0)) true ((at? conf (IntKind.wrap .i64 (((pre.length : Nat) : Int) - 1))).bind fun e8 => some (decide (q ≤ e8))) (some false)) = some false := by
   by_cases hpz : pre.length = 0
   ·have : decide (((pre.length : Nat) : Int) > 0) = false := by simp [hpz]
    rw [this]; simp [ifB]
   ·have hlen : pre.length ≤ conf.length := by rw [h]; simp
    rw [wr _ (by omega) (by omega)]
    obtain ⟨y, hy⟩ : ∃ y, pre[pre.length - 1]? = some y := ⟨_, List.getElem?_eq_getElem (by omega)⟩
    have hy2 : conf[(((pre.length : Nat) : Int) - 1).toNat]? = some y := by
     rw [show (((pre.length : Nat) : Int) - 1).toNat = pre.length - 1 by omega, h, List.getElem?_append_left (by omega)]; exact hy
    have hlt : y < q := by
     rw [h, List.pairwise_append] at hs
     exact hs.2.2 y (List.mem_of_getElem? hy) q (by simp)
    have : decide (q ≤ y) = false := by simp; omega
    rw [at_some (by omega) hy2, Option.bind_some, this]
    simp [ifB]
  rw [hord]
  have hk3 : decide (x.Kind ≤ 3) = true := by simpa using hxo.1
  simp only [hx, hk3, Bool.not_true, ifB_or, Option.bind_some, Bool.or_self]
  have hpar : (ifB (decide (q > 0)) true (r3_Has N conf x.Parent (fun (r17 : Bool) => some (!r17))) (some false)) = some false := by
   by_cases hq0 : 0 < q
   ·have := hp q hm hq0
    rw [hpr] at this
    rw [r3has_eq _ _ _ hN hcl, show (conf.any fun e => e == x.Parent) = true from hasI_mem.2 this]
    simp [ifB]
   ·have : decide (q > 0) = false := by simp; omega
    rw [this]; simp [ifB]
  rw [hpar]
  simp only [Option.bind_some, Bool.false_eq_true, if_false]
  rw [rstates_eq nd q _ hN hl v0 v1, rand_eq _ _ _ hN (by omega) hcl]
  simp only [rstates_eq nd q _ hN hl v0 v1, ifB_and, ifB_or, Option.bind_some]
  unfold condB
  rw [hkd]
  generalize ((x.Kind == 2) && ((((kI q 0 nd).filter (hasI conf)).length : Int) != 1)) = b1
  generalize ((x.Kind == 3) && ((((kI q 0 nd).filter (hasI conf)).length : Int) != (((kI q 0 nd).length : Nat) : Int))) = b2
  cases b1 <;> cases b2 <;> simp [chk, kf]
 ·simp only [r13_Legal_l0, r13_Legal_l0_b, h]
  simp
theorem chn_mem (nd : List Node) (hl : NdOk nd) : ∀ (m : Nat) (k : Int), k < m → k < nd.length → ∀ q ∈ chn (parI nd) m k, (0 ≤ q ∧ q < nd.length) ∧ (0 < q → parI nd q ∈ chn (parI nd) m k) := by
 intro m
 induction m with
 | zero => intro k _ _ q hq; simp [chn] at hq
 | succ m ih =>
  intro k hk hkl q hq
  unfold chn at hq ⊢
  split at hq
  ·simp at hq
  ·rename_i hk0
   rw [if_neg hk0]
   obtain ⟨x, _, hx'⟩ := at_lt (show 0 ≤ k by omega) hkl
   obtain ⟨_, x2, x3, x4⟩ := hl.2 _ _ hx'
   have hpr : parI nd k = x.Parent := by unfold parI; rw [hx']; rfl
   have hlt : parI nd k < k := by rw [hpr]; omega
   rcases List.mem_cons.1 hq with rfl | hq
   ·refine ⟨⟨by omega, hkl⟩, fun h0 => ?_⟩
    right
    -- the parent begins the rest
    by_cases hp0 : parI nd q < 0
    ·exfalso
     have := x4 (by omega)
     omega
    ·cases m with
     | zero => omega
     | succ m => unfold chn; rw [if_neg hp0]; exact List.mem_cons_self ..
   ·obtain ⟨h1, h2⟩ := ih (parI nd k) (by omega) (by omega) q hq
    exact ⟨h1, fun h0 => List.mem_cons_of_mem _ (h2 h0)⟩
theorem badA_false {nd : List Node} {pre : List Int} {a : Int} (h : badA nd pre a = false) : 0 ≤ a ∧ a < nd.length ∧ kdI nd a = 1 ∧ a ∉ pre := by
 unfold badA at h
 simp only [Bool.or_eq_false_iff, Bool.not_eq_false', Bool.and_eq_true, decide_eq_true_eq, bne_eq_false_iff_eq] at h
 exact ⟨h.1.1.1, h.1.1.2, h.1.2, fun hc => by rw [hasI_mem.2 hc] at h; simp at h⟩
theorem okA_mem (nd : List Node) : ∀ (l pre : List Int), okA nd pre l = true → ∀ a ∈ l, 0 ≤ a ∧ a < nd.length ∧ kdI nd a = 1
 | x :: r, pre, h, a, ha => by
  simp only [okA, Bool.and_eq_true, Bool.not_eq_true'] at h
  rcases List.mem_cons.1 ha with rfl | ha
  ·obtain ⟨h1, h2, h3, _⟩ := badA_false h.1; exact ⟨h1, h2, h3⟩
  ·exact okA_mem nd r _ h.2 a ha
theorem rfull_eq (nd : List Node) (atoms : List Int) (k : List Int → Bool → Option R) (hN : big ≤ N) (hl : NdOk nd) (ha : atoms.length ≤ 16386) : ∃ L, r13_Full N nd atoms k = k L (fullB nd atoms) := by
 have hb : big = 1000000000 := rfl
 have hl1 := hl.1
 unfold r13_Full
 -- the chain of parents
 have l2 : ∀ (kp : List Int → Option R) x1 x2 (m n : Nat) (q : Int) (all : List Int), q < m → q < nd.length → all.length < 10000000 + (64 - m) → m ≤ 64 → m + 1 < n → r13_Full_l2 N nd x1 x2 kp n q all = kp (all ++ chn (parI nd) m q) := by
  intro kp x1 x2 m
  induction m with
  | zero =>
   intro n q all hq _ _ _ hn
   obtain ⟨n, rfl⟩ : ∃ w, n = w + 1 := ⟨n - 1, by omega⟩
   have : decide (q ≥ 0) = false := by simp; omega
   simp [r13_Full_l2, r13_Full_l2_b, this, chn]
  | succ m ih =>
   intro n q all hq hqn hal hm hn
   obtain ⟨n, rfl⟩ : ∃ w, n = w + 1 := ⟨n - 1, by omega⟩
   by_cases h0 : q < 0
   ·have : decide (q ≥ 0) = false := by simp; omega
    simp [r13_Full_l2, r13_Full_l2_b, this, chn, h0]
   ·have hd : decide (q ≥ 0) = true := by simp; omega
    obtain ⟨x, hx, hx'⟩ := at_lt (show 0 ≤ q by omega) hqn
    obtain ⟨_, x2, x3, _⟩ := hl.2 _ _ hx'
    have hpr : parI nd q = x.Parent := by unfold parI; rw [hx']; rfl
    simp only [r13_Full_l2, r13_Full_l2_b, hd, hx, if_true, Option.bind_some]
    rw [if_pos (by simp [maxRow]; omega), ih n x.Parent _ (by omega) (by omega) (by simp; omega) (by omega) (by omega)]
    simp [chn, h0, hpr]
 have hal : ∀ l : List Int, (allA nd l).length ≤ 64 * l.length := by
  intro l
  induction l with
  | nil => simp [allA]
  | cons x r ih =>
   have := chn_len (parI nd) 64 x
   unfold allA at ih ⊢
   simp only [List.flatMap_cons, List.length_append, List.length_cons]; omega
 have fin : okA nd [] atoms = true → ∃ L, r3_Of N (allA nd atoms) (fun (r41 : List Int) =>
 r13_Legal N nd r41 (fun (r42 : Bool) =>
 if (!r42) = true then
  (k ([] : List Int) false)
 else
  (k r41 true))) = k L (fullB nd atoms) := by
  intro hok
  have hlen := hal atoms
  have hmem : ∀ q ∈ ofL (allA nd atoms), ∃ a ∈ atoms, q ∈ chn (parI nd) 64 a := by
   intro q hq
   have := ((ofF_mem _ _ _ _).1 hq).2
   unfold allA at this
   exact List.mem_flatMap.1 this
  have hcl := ofF_len (allA nd atoms) 128 0
  rw [rof_eq _ _ hN (by omega), rlegal_eq nd (ofL (allA nd atoms)) _ hN hl (by unfold ofL; omega) (show (ofL (allA nd atoms)).Pairwise (· < ·) from ofF_sorted _ _ _) (fun q hq => ?_) (fun q hq h0 => ?_)]
  ·unfold fullB
   rw [hok, Bool.true_and]
   rcases Bool.eq_false_or_eq_true (hasI (ofL (allA nd atoms)) 0 && (ofL (allA nd atoms)).all (condB nd (ofL (allA nd atoms)))) with h' | h'
   ·rw [h']; exact ⟨_, rfl⟩
   ·rw [h']; exact ⟨[], rfl⟩
  ·obtain ⟨a, ha1, ha2⟩ := hmem q hq
   obtain ⟨a0, a1, _⟩ := okA_mem nd atoms [] hok a ha1
   exact (chn_mem nd hl 64 a (by omega) a1 q ha2).1
  ·obtain ⟨a, ha1, ha2⟩ := hmem q hq
   obtain ⟨a0, a1, _⟩ := okA_mem nd atoms [] hok a ha1
   have h3 := (chn_mem nd hl 64 a (by omega) a1 q ha2).2 h0
   have h4 := (chn_mem nd hl 64 a (by omega) a1 _ h3).1
   refine (ofF_mem _ _ _ _).2 ⟨⟨h4.1, by omega⟩, ?_⟩
   unfold allA
   exact List.mem_flatMap.2 ⟨a, ha1, h3⟩
 have key : ∀ (rest pre : List Int) (n : Nat), atoms = pre ++ rest → rest.length < n → (okA nd pre rest = true → okA nd [] atoms = true) →
   ∃ L, r13_Full_l0 N nd atoms (fun (y39 : List Int) =>
 r3_Of N y39 (fun (r41 : List Int) =>
 r13_Legal N nd r41 (fun (r42 : Bool) =>
 if (!r42) = true then
  (k ([] : List Int) false)
 else
  (k r41 true))))
  (fun (y40 : Bool) =>
 k ([] : List Int) y40) n pre.length (allA nd pre) = k L (okA nd pre rest && (hasI (ofL (allA nd atoms)) 0 && (ofL (allA nd atoms)).all (condB nd (ofL (allA nd atoms))))) := by
  intro rest
  induction rest with
  | nil =>
   intro pre n h hn hok
   obtain ⟨n, rfl⟩ : ∃ w, n = w + 1 := ⟨n - 1, by omega⟩
   have : atoms = pre := by simpa using h
   subst this
   obtain ⟨L, hL⟩ := fin (hok rfl)
   refine ⟨L, ?_⟩
   simp only [r13_Full_l0, r13_Full_l0_b]
   simp only [Int.lt_irrefl, decide_false, Bool.false_eq_true, if_false]
   rw [hL]
   unfold fullB
   rw [hok rfl]; simp [okA]
  | cons a r ih =>
   intro pre n h hn hok
   obtain ⟨n, rfl⟩ : ∃ w, n = w + 1 := ⟨n - 1, by omega⟩
   have hlen : atoms.length = pre.length + (r.length + 1) := by rw [h]; simp
   have hat : at? atoms pre.length = some a := at_some (by omega) (by rw [h]; simp)
   have hd : decide (((pre.length : Nat) : Int) < ((atoms.length : Nat) : Int)) = true := by simp; omega
   have hr : IntKind.wrap .i64 (((pre.length : Nat) : Int) + 1) = (((pre ++ [a]).length : Nat) : Int) := by rw [wr _ (by omega) (by omega)]; simp
   have hap := hal pre
   have hp : pre.length ≤ atoms.length := by omega
   simp only [r13_Full_l0, r13_Full_l0_b, hd, hat, if_true, Option.bind_some]
   unfold r13_Is
   simp only [ifB_and, Option.bind_some]
   have hbad : (ifB (!(decide (a ≥ 0) && decide (a < ((nd.length : Nat) : Int)))) false ((at? nd a).bind fun e32 => some (e32.Kind != 1)) (some true)).bind (fun c33 => ifB c33 false (if (0 : Int) ≤ 0 ∧ 0 ≤ ((pre.length : Nat) : Int) ∧ ((pre.length : Nat) : Int) ≤ ((atoms.length : Nat) : Int) then (r3_Has N ((atoms.take ((pre.length : Nat) : Int).toNat).drop (Int.toNat 0)) a (fun (r35 : Bool) => some r35)) else none) (some true)) = some (badA nd pre a) := by
    rw [if_pos (g01 hp), take_pre h, r3has_eq _ _ _ hN (by omega)]
    unfold badA
    by_cases hv : 0 ≤ a ∧ a < ((nd.length : Nat) : Int)
    ·obtain ⟨x, hx, hx'⟩ := at_lt hv.1 hv.2
     have hkd : kdI nd a = x.Kind := by unfold kdI; rw [hx']; rfl
     have d1 : decide (a ≥ 0) = true := by simpa using hv.1
     have d2 : decide (a < ((nd.length : Nat) : Int)) = true := by simpa using hv.2
     rw [d1, d2, hx, hkd]
     simp only [Bool.and_self, Bool.not_true, Option.bind_some, ifB_or, Bool.false_or]
     rfl
    ·have hv' : (decide (a ≥ 0) && decide (a < ((nd.length : Nat) : Int))) = false := by
      rw [Bool.eq_false_iff]; intro hc; simp only [Bool.and_eq_true, decide_eq_true_eq] at hc; exact hv hc
     rw [hv']
     simp [ifB]
   simp only [okA]
   have step : ∀ (X : Bool → Option R), ((ifB (!(decide (a ≥ 0) && decide (a < ((nd.length : Nat) : Int)))) false ((at? nd a).bind fun e32 => some (e32.Kind != 1)) (some true)).bind fun c33 => (ifB c33 false (if (0 : Int) ≤ 0 ∧ 0 ≤ ((pre.length : Nat) : Int) ∧ ((pre.length : Nat) : Int) ≤ ((atoms.length : Nat) : Int) then (r3_Has N ((atoms.take ((pre.length : Nat) : Int).toNat).drop (Int.toNat 0)) a (fun (r35 : Bool) => some r35)) else none) (some true)).bind X) = X (badA nd pre a) := by
    intro X
    have := congrArg (fun o => Option.bind o X) hbad
    simp only [Option.bind_some] at this
    rw [← this, Option.bind_assoc]
   rw [step]
   rcases Bool.eq_false_or_eq_true (badA nd pre a) with hba | hba
   ·rw [if_pos hba, hba]
    exact ⟨[], rfl⟩
   ·obtain ⟨b0, b1, b2, b3⟩ := badA_false hba
    rw [if_neg (by simp [hba]), l2 _ _ _ 64 N a _ (by omega) b1 (by omega) (by omega) (by omega), hr, hba]
    have hall : allA nd pre ++ chn (parI nd) 64 a = allA nd (pre ++ [a]) := by unfold allA; simp
    rw [hall]
    obtain ⟨L, hL⟩ := ih (pre ++ [a]) n (by rw [h]; simp) (by simp at hn; omega) (fun hq => hok (by simp [okA, hba, hq]))
    exact ⟨L, by simpa using hL⟩
 obtain ⟨L, hL⟩ := key atoms [] N rfl (by omega) (fun h => h)
 exact ⟨L, by simpa [fullB, allA] using hL⟩
end
theorem nL_cons (up i : Int) (s : State) (r : List State) : nL up i (s :: r) = (i, up, s) :: (nL i (i + 1) s.Kids ++ nL up (i + 1 + (flL s.Kids).length) r) := by
 simp only [nL, nS_cons, List.cons_append]
 congr 3
 rw [flS_cons, List.length_cons]; omega
theorem flS_len (s : State) : ((flS s).length : Int) = 1 + (flL s.Kids).length := by rw [flS_cons, List.length_cons]; omega
def iota : Int → Nat → List Int
 | _, 0 => []
 | i, n + 1 => i :: iota (i + 1) n
theorem iota_app (i : Int) (m n : Nat) : iota i (m + n) = iota i m ++ iota (i + m) n := by
 induction m generalizing i with
 | zero => simp [iota]
 | succ m ih =>
  rw [show m + 1 + n = (m + n) + 1 by omega]
  simp only [iota, ih, List.cons_append]
  rw [show i + 1 + (m : Int) = i + ((m + 1 : Nat) : Int) by omega]
theorem tree_ind {P : List State → Prop} (h0 : P []) (h1 : ∀ s r, P s.Kids → P r → P (s :: r)) (l : List State) : P l := by
 have : ∀ (n : Nat) (l : List State), (flL l).length ≤ n → P l := by
  intro n
  induction n with
  | zero =>
   intro l hl
   cases l with
   | nil => exact h0
   | cons s r => simp only [flL, flS_cons, List.length_append, List.length_cons] at hl; omega
  | succ n ih =>
   intro l hl
   cases l with
   | nil => exact h0
   | cons s r =>
    simp only [flL, flS_cons, List.length_append, List.length_cons] at hl
    exact h1 s r (ih _ (by omega)) (ih _ (by omega))
 exact this _ l (Nat.le_refl _)
theorem nL_fst (l : List State) : ∀ (up i : Int), (nL up i l).map (·.1) = iota i (flL l).length := by
 induction l using tree_ind with
 | h0 => intro up i; simp [nL, flL, iota]
 | h1 s r hk hr =>
  intro up i
  rw [nL_cons]
  simp only [List.map_cons, List.map_append, hk, hr]
  simp only [flL, flS_cons, List.length_append, List.length_cons]
  rw [show (flL s.Kids).length + 1 + (flL r).length = ((flL s.Kids).length + (flL r).length) + 1 by omega]
  simp only [iota]
  rw [iota_app]
theorem nL_rng (l : List State) : ∀ (up i : Int), ∀ k p s, (k, p, s) ∈ nL up i l → (i ≤ k ∧ k < i + (flL l).length) ∧ (p = up ∨ (i ≤ p ∧ p < k)) ∧ k + (flS s).length ≤ i + (flL l).length := by
 induction l using tree_ind with
 | h0 => intro up i k p s h; simp [nL] at h
 | h1 s0 r hk hr =>
  intro up i k p s h
  rw [nL_cons, List.mem_cons, List.mem_append] at h
  have e1 := flS_len s0
  have e2 : ((flL (s0 :: r)).length : Int) = (flS s0).length + (flL r).length := by simp [flL]
  rcases h with h | h | h
  ·cases h; omega
  ·have := hk i (i + 1) k p s h
   omega
  ·have := hr up (i + 1 + (flL s0.Kids).length) k p s h
   omega
theorem nL_top (l : List State) : ∀ (up i : Int), up < i → ((nL up i l).filter fun x => x.2.1 == up).map (·.2.2) = l := by
 induction l with
 | nil => intro up i _; simp [nL]
 | cons s r ih =>
  intro up i hu
  rw [nL_cons, List.filter_cons]
  have hn : (nL i (i + 1) s.Kids).filter (fun x => x.2.1 == up) = [] := by
   rw [List.filter_eq_nil_iff]
   rintro ⟨k, p, x⟩ hx hc
   have := nL_rng _ _ _ _ _ _ hx
   simp only [beq_iff_eq] at hc
   omega
  rw [if_pos (by simp), List.filter_append, hn, List.nil_append, List.map_cons, ih up _ (by omega)]
theorem nL_kids (l : List State) : ∀ (up i : Int), up < i → ∀ q p s, (q, p, s) ∈ nL up i l → ((nL up i l).filter fun x => x.2.1 == q).map (·.2.2) = s.Kids := by
 induction l using tree_ind with
 | h0 => intro up i _ q p s h; simp [nL] at h
 | h1 s0 r hk hr =>
  intro up i hu q p s h
  rw [nL_cons, List.mem_cons, List.mem_append] at h
  rw [nL_cons, List.filter_cons, List.filter_append]
  have nof : ∀ (up' i' : Int) (l' : List State), (∀ k p s, (k, p, s) ∈ nL up' i' l' → p ≠ q) → (nL up' i' l').filter (fun x => x.2.1 == q) = [] := by
   intro up' i' l' h'
   rw [List.filter_eq_nil_iff]
   rintro ⟨k, p, x⟩ hx hc
   simp only [beq_iff_eq] at hc
   exact h' _ _ _ hx hc
  rcases h with h | h | h
  ·cases h
   rw [if_neg (by simp; omega), nof up _ r (fun k p s hx => by have := nL_rng _ _ _ _ _ _ hx; omega), List.append_nil]
   exact nL_top _ _ _ (by omega)
  ·have h1 := nL_rng _ _ _ _ _ _ h
   rw [if_neg (by simp; omega), nof up _ r (fun k p s hx => by have := nL_rng _ _ _ _ _ _ hx; omega), List.append_nil]
   exact hk i (i + 1) (by omega) q p s h
  ·have h1 := nL_rng _ _ _ _ _ _ h
   rw [if_neg (by simp; omega), nof i _ s0.Kids (fun k p s hx => by have := nL_rng _ _ _ _ _ _ hx; omega), List.nil_append]
   exact hr up _ (by omega) q p s h
theorem nL_int (l : List State) : ∀ (up i : Int), up < i → ∀ q p s, (q, p, s) ∈ nL up i l → ∀ k p' x, (k, p', x) ∈ nL up i l → k ≠ q → ((q ≤ k ∧ k < q + (flS s).length) ↔ (q ≤ p' ∧ p' < q + (flS s).length)) := by
 induction l using tree_ind with
 | h0 => intro up i _ q p s h; simp [nL] at h
 | h1 s0 r hk hr =>
  intro up i hu q p s h k p' x h' hne
  rw [nL_cons, List.mem_cons, List.mem_append] at h h'
  have e1 := flS_len s0
  rcases h with h | h | h
  ·cases h
   rcases h' with h' | h' | h'
   ·cases h'; omega
   ·have := nL_rng _ _ _ _ _ _ h'; omega
   ·have := nL_rng _ _ _ _ _ _ h'; omega
  ·have g := nL_rng _ _ _ _ _ _ h
   rcases h' with h' | h' | h'
   ·cases h'; omega
   ·exact hk i (i + 1) (by omega) q p s h k p' x h' hne
   ·have := nL_rng _ _ _ _ _ _ h'; omega
  ·have g := nL_rng _ _ _ _ _ _ h
   rcases h' with h' | h' | h'
   ·cases h'; omega
   ·have := nL_rng _ _ _ _ _ _ h'; omega
   ·exact hr up _ (by omega) q p s h k p' x h' hne
theorem nL_sub (l : List State) : ∀ (up i : Int), ∀ q p s, (q, p, s) ∈ nL up i l → (∀ k p' x, (k, p', x) ∈ nL up i l → q ≤ k → k < q + (flS s).length → x ∈ flS s) ∧ (∀ x ∈ flS s, ∃ k p', (k, p', x) ∈ nL up i l ∧ q ≤ k ∧ k < q + (flS s).length) := by
 induction l using tree_ind with
 | h0 => intro up i q p s h; simp [nL] at h
 | h1 s0 r hk hr =>
  intro up i q p s h
  rw [nL_cons, List.mem_cons, List.mem_append] at h
  have e1 := flS_len s0
  rw [nL_cons]
  simp only [List.mem_cons, List.mem_append]
  rcases h with h | h | h
  ·cases h
   refine ⟨fun k p' x h' g1 g2 => ?_, fun x hx => ?_⟩
   ·rw [flS_cons]
    rcases h' with h' | h' | h'
    ·cases h'; exact List.mem_cons_self ..
    ·refine List.mem_cons_of_mem _ ?_
     rw [← nL_state s0.Kids i (i + 1)]
     exact List.mem_map.2 ⟨_, h', rfl⟩
    ·have := nL_rng _ _ _ _ _ _ h'; omega
   ·rw [flS_cons] at hx
    rcases List.mem_cons.1 hx with rfl | hx
    ·exact ⟨i, up, .inl rfl, by omega, by omega⟩
    ·rw [← nL_state s0.Kids i (i + 1)] at hx
     obtain ⟨⟨k, p', y⟩, h1, rfl⟩ := List.mem_map.1 hx
     have := nL_rng _ _ _ _ _ _ h1
     exact ⟨k, p', .inr (.inl h1), by omega, by omega⟩
  ·have g := nL_rng _ _ _ _ _ _ h
   obtain ⟨a1, a2⟩ := hk i (i + 1) q p s h
   refine ⟨fun k p' x h' g1 g2 => ?_, fun x hx => ?_⟩
   ·rcases h' with h' | h' | h'
    ·cases h'; omega
    ·exact a1 k p' x h' g1 g2
    ·have := nL_rng _ _ _ _ _ _ h'; omega
   ·obtain ⟨k, p', b1, b2⟩ := a2 x hx
    exact ⟨k, p', .inr (.inl b1), b2⟩
  ·have g := nL_rng _ _ _ _ _ _ h
   obtain ⟨a1, a2⟩ := hr up _ q p s h
   refine ⟨fun k p' x h' g1 g2 => ?_, fun x hx => ?_⟩
   ·rcases h' with h' | h' | h'
    ·cases h'; omega
    ·have := nL_rng _ _ _ _ _ _ h'; omega
    ·exact a1 k p' x h' g1 g2
   ·obtain ⟨k, p', b1, b2⟩ := a2 x hx
    exact ⟨k, p', .inr (.inr b1), b2⟩
theorem iota_get (n : Nat) : ∀ (i : Int) (j : Nat), j < n → (iota i n)[j]? = some (i + j) := by
 induction n with
 | zero => intro i j h; omega
 | succ n ih =>
  intro i j h
  cases j with
  | zero => simp [iota]
  | succ j =>
   simp only [iota, List.getElem?_cons_succ]
   rw [ih (i + 1) j (by omega)]
   congr 1; omega
theorem node_at {c : Chart} {nd : List Node} (h : nd.map tri = Tn c) {k p : Int} {s : State} (hm : (k, p, s) ∈ nL 0 1 c.States) : ∃ y, nd[k.toNat]? = some y ∧ y.Kind = kindN s ∧ y.Parent = p ∧ y.Name = s.Name ∧ 1 ≤ k := by
 obtain ⟨j, hj⟩ := List.getElem?_of_mem hm
 have hlt : j < (flL c.States).length := by
  have := (List.getElem?_eq_some_iff.1 hj).1
  rwa [nL_len] at this
 have h1 : ((nL 0 1 c.States).map (·.1))[j]? = some k := by rw [List.getElem?_map, hj]; rfl
 rw [nL_fst, iota_get _ _ _ hlt] at h1
 have hk : k = 1 + j := (Option.some.inj h1).symm
 have h2 : (nd.map tri)[j + 1]? = some (triN (k, p, s)) := by
  rw [h]; unfold Tn
  rw [List.getElem?_cons_succ, List.getElem?_map, hj]; rfl
 rw [List.getElem?_map] at h2
 have ht : k.toNat = j + 1 := by omega
 rw [ht]
 cases hn : nd[j + 1]? with
 | none => rw [hn] at h2; cases h2
 | some y =>
  rw [hn] at h2
  have h3 : tri y = triN (k, p, s) := Option.some.inj h2
  unfold tri triN at h3
  simp only [Prod.mk.injEq] at h3
  exact ⟨y, rfl, h3.1, h3.2.1, h3.2.2, by omega⟩
theorem node_inv {c : Chart} {nd : List Node} (h : nd.map tri = Tn c) {k : Int} (h1 : 1 ≤ k) (h2 : k < nd.length) : ∃ p s, (k, p, s) ∈ nL 0 1 c.States := by
 have hl : nd.length = 1 + (flL c.States).length := by
  have := congrArg List.length h
  simp only [List.length_map, Tn, List.length_cons, nL_len] at this
  omega
 have hj : k.toNat - 1 < (nL 0 1 c.States).length := by rw [nL_len]; omega
 refine ⟨((nL 0 1 c.States)[k.toNat - 1]).2.1, ((nL 0 1 c.States)[k.toNat - 1]).2.2, ?_⟩
 have hm := List.getElem_mem hj
 have hf : ((nL 0 1 c.States).map (·.1))[k.toNat - 1]? = some ((nL 0 1 c.States)[k.toNat - 1]).1 := by
  rw [List.getElem?_map, List.getElem?_eq_getElem hj]; rfl
 rw [nL_fst, iota_get _ _ _ (by rw [nL_len] at hj; exact hj)] at hf
 have : ((nL 0 1 c.States)[k.toNat - 1]).1 = k := by have := Option.some.inj hf; omega
 have e : (k, ((nL 0 1 c.States)[k.toNat - 1]).2.1, ((nL 0 1 c.States)[k.toNat - 1]).2.2) = (nL 0 1 c.States)[k.toNat - 1] := by
  refine Prod.ext ?_ rfl
  exact this.symm
 rw [e]; exact hm
theorem kI_tri (q : Int) : ∀ (rest : List Node) (M : List (Int × Int × State)) (i : Int), rest.map tri = M.map triN → M.map (·.1) = iota i M.length → kI q i rest = (M.filter fun x => x.2.1 == q).map (·.1)
 | [], [], i, _, _ => by simp [kI]
 | [], _ :: _, i, h, _ => by simp at h
 | _ :: _, [], i, h, _ => by simp at h
 | y :: r, x :: M, i, h, h2 => by
  simp only [List.map_cons, List.cons.injEq] at h
  simp only [List.map_cons, List.length_cons, iota, List.cons.injEq] at h2
  have ih := kI_tri q r M (i + 1) h.2 h2.2
  have hp : y.Parent = x.2.1 := by have := h.1; unfold tri triN at this; simp only [Prod.mk.injEq] at this; exact this.2.1
  simp only [kI, ih, List.filter_cons, hp]
  split
  ·simp [h2.1]
  ·simp
theorem kI_nd {c : Chart} {nd : List Node} (h : nd.map tri = Tn c) {q : Int} (hq : 0 ≤ q) : kI q 0 nd = ((nL 0 1 c.States).filter fun x => x.2.1 == q).map (·.1) := by
 cases nd with
 | nil => simp [Tn] at h
 | cons y r =>
  simp only [List.map_cons, Tn, List.cons.injEq] at h
  have hp : y.Parent = -1 := by have := h.1; unfold tri at this; simp only [Prod.mk.injEq] at this; exact this.2.1
  have hne : ¬ (y.Parent == q) = true := by rw [hp]; simp; omega
  simp only [kI, if_neg hne, List.nil_append]
  exact kI_tri q r _ (0 + 1) h.2 (by rw [nL_fst, nL_len]; rfl)
def act (set : List (List UInt8)) (s : State) : Bool := !(hasN set s == 0)
def cS (set : List (List UInt8)) (s : State) : Prop := (s.Kids.length = 0 → hasN set s = 1) ∧ (s.Kids.length ≠ 0 → s.Kind = 2 → s.Kids.all (act set) = true) ∧ (s.Kids.length ≠ 0 → s.Kind ≠ 2 → (s.Kids.filter (act set)).length = 1)
section
variable (set : List (List UInt8))
theorem actT (l : List State) : ∀ sum so, actL true set l sum so = if l.all (ok1 set) = true then (sum + hasL set l, true) else (0, false) := by
 induction l with
 | nil => intro sum so; simp [actL, hasL]
 | cons s r ih =>
  intro sum so
  simp only [actL, Bool.not_true, Bool.and_false, Bool.false_eq_true, if_false, List.all_cons, hasL]
  rcases Bool.eq_false_or_eq_true (ok1 set s) with h | h
  ·simp only [h, if_true, Bool.true_and, ih]; rw [Int.add_assoc]
  ·simp [h]
theorem actF (l : List State) : ∀ sum so, actL false set l sum so = if l.all (fun s => !act set s || ok1 set s) = true then (sum + hasL set l, (so + ((l.filter (act set)).length : Int)) == 1) else (0, false) := by
 induction l with
 | nil => intro sum so; simp [actL, hasL]
 | cons s r ih =>
  intro sum so
  simp only [actL, Bool.not_false, Bool.and_true, List.all_cons, hasL, List.filter_cons]
  rcases Bool.eq_false_or_eq_true (hasN set s == 0) with h | h
  ·have ha : act set s = false := by unfold act; rw [h]; rfl
   have hz : hasN set s = 0 := by simpa using h
   rw [if_pos h]
   simp only [ih, ha, Bool.not_false, Bool.true_or, Bool.true_and, hz, Bool.false_eq_true, if_false]
   rw [Int.zero_add]
  ·have ha : act set s = true := by unfold act; rw [h]; rfl
   simp only [h, Bool.false_eq_true, if_false, ha, Bool.not_true, Bool.false_or, if_true]
   rcases Bool.eq_false_or_eq_true (ok1 set s) with h1 | h1
   ·simp only [h1, if_true, Bool.true_and, ih, List.length_cons]
    rw [Int.add_assoc, show so + 1 + ((r.filter (act set)).length : Int) = so + (((r.filter (act set)).length + 1 : Nat) : Int) by omega]
   ·simp [h1]
theorem hasL_pos (l : List State) : 0 ≤ hasL set l := (has_bd set l).1
theorem ok1_act (s : State) : ok1 set s = true → act set s = true := by
 have : ∀ l : List State, ∀ s ∈ l, ok1 set s = true → act set s = true := by
  intro l
  induction l using tree_ind with
  | h0 => intro s h; cases h
  | h1 s0 r hk hr =>
   intro s hs h
   rcases List.mem_cons.1 hs with rfl | hs
   ·rw [ok1_eq] at h
    unfold act
    split at h
    ·simp only [beq_iff_eq] at h; rw [h]; rfl
    ·rename_i hz
     have hp : 0 < hasL set s.Kids := by
      have key : ∀ l : List State, (∃ x ∈ l, act set x = true) → 0 < hasL set l := by
       intro l
       induction l with
       | nil => rintro ⟨x, hx, _⟩; cases hx
       | cons y r ih =>
        rintro ⟨x, hx, ha⟩
        have h1 := (hasN_bd set y).1
        have h2 := hasL_pos set r
        simp only [hasL]
        rcases List.mem_cons.1 hx with rfl | hx
        ·have : hasN set x ≠ 0 := by unfold act at ha; simpa using ha
         omega
        ·have := ih ⟨x, hx, ha⟩; omega
      apply key
      cases hb : (s.Kind == 2) with
      | true =>
       rw [hb, actT] at h
       split at h
       ·rename_i hall
        obtain ⟨x, hx⟩ := List.exists_mem_of_length_pos (Nat.pos_of_ne_zero hz)
        exact ⟨x, hx, hk x hx (List.all_eq_true.1 hall x hx)⟩
       ·cases h
      | false =>
       rw [hb, actF] at h
       split at h
       ·simp only [Int.zero_add, beq_iff_eq] at h
        obtain ⟨x, hx⟩ := List.exists_mem_of_length_pos (show 0 < (s.Kids.filter (act set)).length by omega)
        exact ⟨x, (List.mem_filter.1 hx).1, (List.mem_filter.1 hx).2⟩
       ·cases h
     have h1 := (hasN_bd set s).1
     have h2 := hasN_eq set s
     rw [if_neg hz] at h2
     have : hasN set s ≠ 0 := by omega
     simpa using this
   ·exact hr s hs h
 exact this [s] s (by simp)
theorem act_kids {s : State} (h : act set s = false) : ∀ x ∈ s.Kids, act set x = false := by
 have h0 : hasN set s = 0 := by unfold act at h; simpa using h
 have h2 := hasN_eq set s
 have hz : hasL set s.Kids = 0 := by
  have := hasL_pos set s.Kids
  split at h2 <;> omega
 have key : ∀ l : List State, hasL set l = 0 → ∀ x ∈ l, act set x = false := by
  intro l
  induction l with
  | nil => intro _ x hx; cases hx
  | cons y r ih =>
   intro h x hx
   simp only [hasL] at h
   have h1 := (hasN_bd set y).1
   have h2 := hasL_pos set r
   rcases List.mem_cons.1 hx with rfl | hx
   ·unfold act; rw [show hasN set x = 0 by omega]; rfl
   ·exact ih (by omega) x hx
 exact key _ hz
theorem ok1_iff (s : State) : ok1 set s = true ↔ cS set s ∧ (s.Kids.length = 0 ∨ s.Kids.all (fun x => !act set x || ok1 set x) = true) := by
 rw [ok1_eq]
 unfold cS
 by_cases hz : s.Kids.length = 0
 ·simp [hz]
 ·rw [if_neg hz]
  simp only [hz, false_implies, not_false_eq_true, true_implies, true_and, false_or, ne_eq]
  by_cases hk : s.Kind = 2
  ·have hb : (s.Kind == 2) = true := by simp [hk]
   rw [hb, actT]
   simp only [hk, true_implies, not_true_eq_false, false_implies, and_true]
   constructor
   ·intro h
    split at h
    ·rename_i hall
     refine ⟨List.all_eq_true.2 fun x hx => ok1_act set x (List.all_eq_true.1 hall x hx), List.all_eq_true.2 fun x hx => ?_⟩
     rw [List.all_eq_true.1 hall x hx]; simp
    ·cases h
   ·rintro ⟨h1, h2⟩
    rw [if_pos]
    refine List.all_eq_true.2 fun x hx => ?_
    have a1 := List.all_eq_true.1 h1 x hx
    have a2 := List.all_eq_true.1 h2 x hx
    simpa [a1] using a2
  ·have hb : (s.Kind == 2) = false := by simp [hk]
   rw [hb, actF]
   simp only [hk, false_implies, not_false_eq_true, true_implies, true_and, Int.zero_add]
   constructor
   ·intro h
    split at h
    ·rename_i hall
     simp only [beq_iff_eq] at h
     exact ⟨by omega, hall⟩
    ·cases h
   ·rintro ⟨h1, h2⟩
    rw [if_pos h2]
    simp [h1]
theorem all_iff (l : List State) : l.all (fun x => !act set x || ok1 set x) = true ↔ ∀ s ∈ flL l, act set s = true → cS set s := by
 induction l using tree_ind with
 | h0 => simp [flL]
 | h1 s r hk hr =>
  rw [List.all_cons, Bool.and_eq_true, hr]
  simp only [flL, flS_cons, List.cons_append, List.mem_cons, List.mem_append]
  constructor
  ·rintro ⟨h1, h2⟩ x hx ha
   rcases hx with rfl | hx | hx
   ·rw [ha] at h1
    simp only [Bool.not_true, Bool.false_or] at h1
    exact ((ok1_iff set x).1 h1).1
   ·cases hs : act set s with
    | true =>
     rw [hs] at h1
     simp only [Bool.not_true, Bool.false_or] at h1
     rcases ((ok1_iff set s).1 h1).2 with hz | hz
     ·rw [List.length_eq_zero_iff.1 hz] at hx; simp [flL] at hx
     ·exact hk.1 hz x hx ha
    | false =>
     exfalso
     have key : ∀ l : List State, (∀ y ∈ l, act set y = false) → ∀ y ∈ flL l, act set y = false := by
      intro l
      induction l using tree_ind with
      | h0 => intro _ y hy; simp [flL] at hy
      | h1 s' r' hk' hr' =>
       intro h y hy
       simp only [flL, flS_cons, List.cons_append, List.mem_cons, List.mem_append] at hy
       have hs' := h s' (List.mem_cons_self ..)
       rcases hy with rfl | hy | hy
       ·exact hs'
       ·exact hk' (act_kids set hs') y hy
       ·exact hr' (fun y hy => h y (List.mem_cons_of_mem _ hy)) y hy
     rw [key _ (act_kids set hs) x hx] at ha
     cases ha
   ·exact h2 x hx ha
  ·intro h
   refine ⟨?_, fun x hx => h x (.inr (.inr hx))⟩
   cases hs : act set s with
   | false => rfl
   | true =>
    simp only [Bool.not_true, Bool.false_or]
    rw [ok1_iff]
    refine ⟨h s (.inl rfl) hs, ?_⟩
    by_cases hz : s.Kids.length = 0
    ·exact .inl hz
    ·exact .inr (hk.2 fun x hx => h x (.inr (.inl hx)))
theorem leavesB_iff (l : List State) : leavesB l set = true ↔ (l.filter (act set)).length = 1 ∧ (∀ s ∈ flL l, act set s = true → cS set s) ∧ hasL set l = set.length := by
 unfold leavesB
 rw [actF, ← all_iff]
 split
 ·rename_i h
  simp only [Bool.and_eq_true, beq_iff_eq, Int.zero_add, h, true_and]
  constructor
  ·rintro ⟨h1, h2⟩; exact ⟨by omega, h2⟩
  ·rintro ⟨h1, h2⟩; exact ⟨by omega, h2⟩
 ·rename_i h
  simp [h]
def cntN (nm : List UInt8) : Int := (((set.filter fun e => e == nm).length : Nat) : Int)
def leafs (l : List State) : List State := (flL l).filter fun s => s.Kids.length == 0
theorem hasL_sum (l : List State) : hasL set l = ((leafs l).map fun s => cntN set s.Name).sum := by
 unfold leafs
 induction l using tree_ind with
 | h0 => simp [hasL, flL]
 | h1 s r hk hr =>
  simp only [hasL, hasN_eq, hk, hr, flL, flS_cons, List.cons_append, List.filter_cons, List.filter_append]
  by_cases hz : s.Kids.length = 0
  ·have : (s.Kids.length == 0) = true := by simp [hz]
   rw [if_pos hz, if_pos this]
   simp only [List.map_cons, List.sum_cons, List.map_append, List.sum_append, cntN]
   omega
  ·have : ¬ (s.Kids.length == 0) = true := by simpa using hz
   rw [if_neg hz, if_neg this]
   simp only [List.map_append, List.sum_append]
   omega
end
theorem filt_or {α : Type} (p q : α → Bool) (h : ∀ x, ¬ (p x = true ∧ q x = true)) : ∀ l : List α, (l.filter p).length + (l.filter q).length = (l.filter fun x => p x || q x).length
 | [] => rfl
 | x :: r => by
  have ih := filt_or p q h r
  simp only [List.filter_cons]
  have := h x
  cases hp : p x <;> cases hq : q x <;> simp_all <;> omega
theorem sum_cnt (set : List (List UInt8)) : ∀ L : List State, (L.map (·.Name)).Nodup → (L.map fun s => cntN set s.Name).sum = (((set.filter fun nm => L.any fun s => s.Name == nm).length : Nat) : Int)
 | [], _ => by
  have : (set.filter fun nm => ([] : List State).any fun s => s.Name == nm) = [] := by
   rw [List.filter_eq_nil_iff]; intro x _ h; simp at h
  rw [this]; rfl
 | s :: r, h => by
  simp only [List.map_cons, List.nodup_cons] at h
  have ih := sum_cnt set r h.2
  simp only [List.map_cons, List.sum_cons, ih, List.any_cons]
  unfold cntN
  have := filt_or (fun e => e == s.Name) (fun nm => r.any fun x => x.Name == nm) (fun x hx => by
   obtain ⟨h1, h2⟩ := hx
   simp only [beq_iff_eq] at h1
   subst h1
   obtain ⟨y, hy, hy2⟩ := List.any_eq_true.1 h2
   simp only [beq_iff_eq] at hy2
   exact h.1 (List.mem_map.2 ⟨y, hy, hy2⟩)) set
  have e : (set.filter fun nm => (s.Name == nm) || r.any fun x => x.Name == nm) = set.filter fun x => (x == s.Name) || r.any fun y => y.Name == x := by
   congr 1
   funext x
   congr 1
   rw [Bool.eq_iff_iff, beq_iff_eq, beq_iff_eq]; exact eq_comm
  rw [e]
  omega
theorem cnt_nodup {set : List (List UInt8)} (h : set.Nodup) (nm : List UInt8) : cntN set nm ≤ 1 := by
 unfold cntN
 induction set with
 | nil => simp
 | cons x r ih =>
  simp only [List.nodup_cons] at h
  have := ih h.2
  simp only [List.filter_cons]
  by_cases hx : x = nm
  ·subst hx
   have hn : r.filter (fun e => e == x) = [] := by
    rw [List.filter_eq_nil_iff]
    intro y hy hc
    simp only [beq_iff_eq] at hc
    exact h.1 (hc ▸ hy)
   simp [hn]
  ·have : (x == nm) = false := by simpa using hx
   rw [this]; simpa using ih h.2
theorem nodup_cnt {set : List (List UInt8)} (h : ∀ nm ∈ set, cntN set nm ≤ 1) : set.Nodup := by
 unfold cntN at h
 induction set with
 | nil => simp
 | cons x r ih =>
  rw [List.nodup_cons]
  refine ⟨fun hx => ?_, ih fun nm hm => ?_⟩
  ·have := h x (List.mem_cons_self ..)
   simp only [List.filter_cons, beq_self_eq_true, if_true, List.length_cons] at this
   have hm : x ∈ r.filter fun e => e == x := List.mem_filter.2 ⟨hx, by simp⟩
   have := List.length_pos_of_mem hm
   omega
  ·have := h nm (List.mem_cons_of_mem _ hm)
   simp only [List.filter_cons] at this
   split at this
   ·simp only [List.length_cons] at this; omega
   ·exact this
theorem Uq_filter {l : List State} (h : Uq l) (p : State → Bool) : ((l.filter p).map (·.Name)).Nodup := by
 unfold Uq at h
 exact List.Nodup.sublist (List.Sublist.map _ List.filter_sublist) h
def VD (set : List (List UInt8)) (l : List State) : Prop := (∀ nm ∈ set, ∃ x ∈ flL l, x.Name = nm ∧ x.Kids.length = 0) ∧ set.Nodup
theorem hasL_iff (set : List (List UInt8)) (l : List State) (hu : Uq (flL l)) : hasL set l = set.length ↔ ∀ nm ∈ set, ∃ x ∈ flL l, x.Name = nm ∧ x.Kids.length = 0 := by
 rw [hasL_sum, sum_cnt set (leafs l) (by unfold leafs; exact Uq_filter hu _)]
 constructor
 ·intro h nm hm
  have h' : (set.filter fun nm => (leafs l).any fun s => s.Name == nm).length = set.length := by omega
  have := List.length_filter_eq_length_iff.1 h' nm hm
  obtain ⟨x, hx, hn⟩ := List.any_eq_true.1 this
  unfold leafs at hx
  rw [List.mem_filter] at hx
  exact ⟨x, hx.1, by simpa using hn, by simpa using hx.2⟩
 ·intro h
  have : (set.filter fun nm => (leafs l).any fun s => s.Name == nm).length = set.length := by
   rw [List.length_filter_eq_length_iff]
   intro nm hm
   obtain ⟨x, hx, hn, hz⟩ := h nm hm
   refine List.any_eq_true.2 ⟨x, ?_, by simp [hn]⟩
   unfold leafs
   rw [List.mem_filter]
   exact ⟨hx, by simp [hz]⟩
  omega
theorem leaf_cnt {set : List (List UInt8)} {x : State} (h : x.Kids.length = 0) : hasN set x = cntN set x.Name := by
 rw [hasN_eq, if_pos h, List.length_eq_zero_iff.1 h]
 simp [hasL, cntN]
def cP (set : List (List UInt8)) (s : State) : Prop := (kindN s = 2 → (s.Kids.filter (act set)).length = 1) ∧ (kindN s = 3 → (s.Kids.filter (act set)).length = s.Kids.length)
theorem leavesB_iff2 (set : List (List UInt8)) (l : List State) (hu : Uq (flL l)) (hk : ∀ s ∈ flL l, (s.Kind = 1 ∨ s.Kind = 2) ∧ (s.Kind = 2 → s.Kids.length ≠ 0)) :
  leavesB l set = true ↔ VD set l ∧ (l.filter (act set)).length = 1 ∧ ∀ s ∈ flL l, act set s = true → cP set s := by
 rw [leavesB_iff, hasL_iff set l hu]
 have hcp : ∀ s ∈ flL l, cS set s → cP set s := by
  intro s hs h
  obtain ⟨h1, h2, h3⟩ := h
  obtain ⟨k1, k2⟩ := hk s hs
  unfold cP
  rcases k1 with e | e
  ·have hkn : kindN s = if s.Kids.length = 0 then 1 else 2 := by unfold kindN; simp [e]
   rw [hkn]
   by_cases hz : s.Kids.length = 0
   ·rw [if_pos hz]; exact ⟨fun h => absurd h (by decide), fun h => absurd h (by decide)⟩
   ·rw [if_neg hz]; exact ⟨fun _ => h3 hz (by omega), fun h => absurd h (by decide)⟩
  ·have hkn : kindN s = 3 := by unfold kindN; simp [e]
   have := h2 (k2 e) e
   rw [hkn]
   refine ⟨fun h => absurd h (by decide), fun _ => ?_⟩
   exact List.length_filter_eq_length_iff.2 fun x hx => List.all_eq_true.1 this x hx
 constructor
 ·rintro ⟨h1, h2, h3⟩
  refine ⟨⟨h3, nodup_cnt fun nm hm => ?_⟩, h1, fun s hs ha => hcp s hs (h2 s hs ha)⟩
  obtain ⟨x, hx, rfl, hz⟩ := h3 nm hm
  have hl := leaf_cnt (set := set) hz
  cases ha : act set x with
  | true => have := (h2 x hx ha).1 hz; omega
  | false =>
   unfold act at ha
   have : hasN set x = 0 := by simpa using ha
   omega
 ·rintro ⟨⟨v, dd⟩, h1, h2⟩
  refine ⟨h1, fun s hs ha => ?_, v⟩
  have hcp := h2 s hs ha
  obtain ⟨k1, k2⟩ := hk s hs
  unfold cP kindN at hcp
  refine ⟨fun hz => ?_, fun hz e => ?_, fun hz e => ?_⟩
  ·have hl := leaf_cnt (set := set) hz
   have := cnt_nodup dd s.Name
   have h0 := (hasN_bd set s).1
   have : hasN set s ≠ 0 := by unfold act at ha; simpa using ha
   omega
  ·have := hcp.2 (by simp [e])
   refine List.all_eq_true.2 fun x hx => List.length_filter_eq_length_iff.1 this x hx
  ·have e1 : s.Kind = 1 := by omega
   exact hcp.1 (by simp [e1, hz])
def Flat (c : Chart) : Prop := Uq (flL c.States) ∧ (flL c.States).length ≤ 63 ∧ ∀ s ∈ flL c.States, (s.Kind = 1 ∨ s.Kind = 2) ∧ (s.Kind = 2 → s.Kids.length ≠ 0)
theorem kindN_le {s : State} (h : s.Kind = 1 ∨ s.Kind = 2) : kindN s ≤ 3 := by
 unfold kindN
 rcases h with e | e
 ·simp [e]; split <;> omega
 ·simp [e]
theorem kindN_one {s : State} (h : (s.Kind = 1 ∨ s.Kind = 2) ∧ (s.Kind = 2 → s.Kids.length ≠ 0)) : kindN s = 1 ↔ s.Kids.length = 0 := by
 obtain ⟨h1, h2⟩ := h
 rcases h1 with e | e
 ·have : kindN s = if s.Kids.length = 0 then 1 else 2 := by unfold kindN; simp [e]
  rw [this]
  split <;> simp_all
 ·have : kindN s = 3 := by unfold kindN; simp [e]
  rw [this]
  have := h2 e
  simp [this]
section
variable {c : Chart} {nd : List Node} (h : nd.map tri = Tn c)
include h
theorem nd_len : nd.length = 1 + (flL c.States).length := by
 have := congrArg List.length h
 simp only [List.length_map, Tn, List.length_cons, nL_len] at this
 omega
theorem nd_zero : ∃ y, nd[0]? = some y ∧ y.Kind = 2 ∧ y.Parent = -1 := by
 cases nd with
 | nil => simp [Tn] at h
 | cons y r =>
  simp only [List.map_cons, Tn, List.cons.injEq] at h
  have := h.1
  unfold tri at this
  simp only [Prod.mk.injEq] at this
  exact ⟨y, rfl, this.1, this.2.1⟩
theorem ndOk (hf : Flat c) : NdOk nd := by
 have hl := nd_len h
 refine ⟨by have := hf.2.1; omega, fun i x hx => ?_⟩
 have hi : i < nd.length := (List.getElem?_eq_some_iff.1 hx).1
 by_cases h0 : i = 0
 ·subst h0
  obtain ⟨y, hy, h1, h2⟩ := nd_zero h
  rw [hx] at hy
  cases hy
  omega
 ·obtain ⟨p, s, hm⟩ := node_inv h (k := i) (by omega) (by omega)
  obtain ⟨y, hy, k1, k2, k3, _⟩ := node_at h hm
  rw [Int.toNat_natCast, hx] at hy
  cases hy
  have hr := nL_rng _ _ _ _ _ _ hm
  have hs : s ∈ flL c.States := by rw [← nL_state c.States 0 1]; exact List.mem_map.2 ⟨_, hm, rfl⟩
  have := kindN_le (hf.2.2 s hs).1
  omega
theorem m_state {k p : Int} {s : State} (hm : (k, p, s) ∈ nL 0 1 c.States) : s ∈ flL c.States := by
 have _ := h
 rw [← nL_state c.States 0 1]; exact List.mem_map.2 ⟨_, hm, rfl⟩
theorem m_uq (hu : Uq (flL c.States)) {k p k' p' : Int} {s s' : State} (hm : (k, p, s) ∈ nL 0 1 c.States) (hm' : (k', p', s') ∈ nL 0 1 c.States) (hn : s.Name = s'.Name) : k = k' ∧ s = s' := by
 have _ := h
 obtain ⟨j, hj⟩ := List.getElem?_of_mem hm
 obtain ⟨j', hj'⟩ := List.getElem?_of_mem hm'
 have hlt : j < (flL c.States).length := by have := (List.getElem?_eq_some_iff.1 hj).1; rwa [nL_len] at this
 have e1 : ((flL c.States).map (·.Name))[j]? = some s.Name := by rw [← nL_state c.States 0 1, List.map_map, List.getElem?_map, hj]; rfl
 have e2 : ((flL c.States).map (·.Name))[j']? = some s'.Name := by rw [← nL_state c.States 0 1, List.map_map, List.getElem?_map, hj']; rfl
 have : j = j' := (List.getElem?_inj (by simpa using hlt) hu).1 (by rw [e1, e2, hn])
 subst this
 rw [hj] at hj'
 have := Option.some.inj hj'
 simp only [Prod.mk.injEq] at this
 exact ⟨this.1, this.2.2⟩
theorem m_fst {k p p' : Int} {s s' : State} (hm : (k, p, s) ∈ nL 0 1 c.States) (hm' : (k, p', s') ∈ nL 0 1 c.States) : s = s' := by
 have _ := h
 obtain ⟨j, hj⟩ := List.getElem?_of_mem hm
 obtain ⟨j', hj'⟩ := List.getElem?_of_mem hm'
 have hlt : j < (flL c.States).length := by have := (List.getElem?_eq_some_iff.1 hj).1; rwa [nL_len] at this
 have hlt' : j' < (flL c.States).length := by have := (List.getElem?_eq_some_iff.1 hj').1; rwa [nL_len] at this
 have e1 : ((nL 0 1 c.States).map (·.1))[j]? = some k := by rw [List.getElem?_map, hj]; rfl
 have e2 : ((nL 0 1 c.States).map (·.1))[j']? = some k := by rw [List.getElem?_map, hj']; rfl
 rw [nL_fst, iota_get _ _ _ hlt] at e1
 rw [nL_fst, iota_get _ _ _ hlt'] at e2
 have : j = j' := by have := Option.some.inj e1; have := Option.some.inj e2; omega
 subst this
 rw [hj] at hj'
 have := Option.some.inj hj'
 simp only [Prod.mk.injEq] at this
 exact this.2.2
theorem par_at {k p : Int} {s : State} (hm : (k, p, s) ∈ nL 0 1 c.States) : parI nd k = p ∧ kdI nd k = kindN s := by
 obtain ⟨y, hy, k1, k2, k3, _⟩ := node_at h hm
 unfold parI kdI
 rw [hy]
 exact ⟨k2, k1⟩
theorem chn_zero (hf : Flat c) : ∀ (m : Nat) (a : Int), 0 ≤ a → a < m → a < nd.length → (0 : Int) ∈ chn (parI nd) m a := by
 intro m
 induction m with
 | zero => intro a h0 h1; omega
 | succ m ih =>
  intro a h0 h1 h2
  unfold chn
  rw [if_neg (by omega)]
  by_cases hz : a = 0
  ·subst hz; exact List.mem_cons_self ..
  ·obtain ⟨p, s, hm⟩ := node_inv h (k := a) (by omega) h2
   have hr := nL_rng _ _ _ _ _ _ hm
   rw [(par_at h hm).1]
   exact List.mem_cons_of_mem _ (ih p (by omega) (by omega) (by omega))
theorem chn_int {q p0 : Int} {s : State} (hq : (q, p0, s) ∈ nL 0 1 c.States) : ∀ (m : Nat) (a : Int), 0 ≤ a → a < m → a < nd.length → (q ∈ chn (parI nd) m a ↔ (q ≤ a ∧ a < q + (flS s).length)) := by
 have hq1 := nL_rng _ _ _ _ _ _ hq
 have hsz := flS_len s
 intro m
 induction m with
 | zero => intro a h0 h1; omega
 | succ m ih =>
  intro a h0 h1 h2
  unfold chn
  rw [if_neg (by omega), List.mem_cons]
  by_cases hz : a = 0
  ·subst hz
   obtain ⟨y, hy, _, hp⟩ := nd_zero h
   have hpar : parI nd 0 = -1 := by unfold parI; rw [show (0 : Int).toNat = 0 from rfl, hy]; exact hp
   rw [hpar]
   have : chn (parI nd) m (-1) = [] := by cases m <;> simp [chn]
   rw [this]
   simp only [List.not_mem_nil, or_false]
   omega
  ·obtain ⟨p, x, hm⟩ := node_inv h (k := a) (by omega) h2
   have hr := nL_rng _ _ _ _ _ _ hm
   rw [(par_at h hm).1]
   by_cases he : a = q
   ·subst he
    simp only [true_or, true_iff]; omega
   ·rw [ih p (by omega) (by omega) (by omega), ← nL_int _ _ _ (by omega) _ _ _ hq _ _ _ hm he]
    constructor
    ·rintro (h | h)
     ·exact absurd h.symm he
     ·exact h
    ·exact .inr
end
theorem nodup_of_map {α β : Type} (f : α → β) : ∀ l : List α, (l.map f).Nodup → l.Nodup
 | [], _ => List.nodup_nil
 | x :: r, h => by
  rw [List.map_cons, List.nodup_cons] at h
  rw [List.nodup_cons]
  exact ⟨fun hx => h.1 (List.mem_map.2 ⟨x, hx, rfl⟩), nodup_of_map f r h.2⟩
def atomOf (nd : List Node) (nm : List UInt8) : Int := if idx (fun e : Node => e.Name == nm) (nd.drop 1) < 0 then -1 else idx (fun e : Node => e.Name == nm) (nd.drop 1) + 1
section
variable {c : Chart} {nd : List Node} (h : nd.map tri = Tn c)
include h
theorem atom_spec (nm : List UInt8) : (∃ p x, (atomOf nd nm, p, x) ∈ nL 0 1 c.States ∧ x.Name = nm) ∨ (atomOf nd nm = -1 ∧ ∀ x ∈ flL c.States, x.Name ≠ nm) := by
 unfold atomOf
 by_cases hz : idx (fun e : Node => e.Name == nm) (nd.drop 1) < 0
 ·rw [if_pos hz]
  refine .inr ⟨rfl, fun x hx hn => ?_⟩
  rw [← nL_state c.States 0 1] at hx
  obtain ⟨⟨k, p, y⟩, hm, rfl⟩ := List.mem_map.1 hx
  obtain ⟨w, hw, _, _, hn', hk⟩ := node_at h hm
  have hin : w ∈ nd.drop 1 := by
   rw [List.mem_iff_getElem?]
   refine ⟨k.toNat - 1, ?_⟩
   rw [List.getElem?_drop, show 1 + (k.toNat - 1) = k.toNat by omega]; exact hw
  have hany : (nd.drop 1).any (fun e : Node => e.Name == nm) = true := List.any_eq_true.2 ⟨w, hin, by simp only [beq_iff_eq]; exact hn'.trans hn⟩
  have := idx_any' (fun e : Node => e.Name == nm) (nd.drop 1)
  rw [hany, decide_eq_true hz] at this
  cases this
 ·rw [if_neg hz]
  left
  obtain ⟨e, h1, h2⟩ := find_at hz
  have he := List.find?_some h2
  have hlt := idx_lt (fun e : Node => e.Name == nm) (nd.drop 1)
  have hdl : (nd.drop 1).length = nd.length - 1 := by simp
  generalize idx (fun e : Node => e.Name == nm) (nd.drop 1) = j at *
  obtain ⟨p, x, hm⟩ := node_inv h (k := j + 1) (by omega) (by omega)
  obtain ⟨y, hy, _, _, hn, _⟩ := node_at h hm
  refine ⟨p, x, hm, ?_⟩
  unfold at? at h1
  rw [if_neg hz, List.getElem?_drop, show 1 + j.toNat = (j + 1).toNat by omega, hy] at h1
  have : y = e := Option.some.inj h1
  subst this
  rw [← hn]
  simpa using he
theorem okA_iff : ∀ (l pre : List Int), okA nd pre l = true ↔ (∀ a ∈ l, (0 ≤ a ∧ a < nd.length) ∧ kdI nd a = 1) ∧ l.Nodup ∧ ∀ a ∈ l, a ∉ pre
 | [], pre => by have _ := h; simp [okA]
 | x :: r, pre => by
  simp only [okA, Bool.and_eq_true, Bool.not_eq_true', okA_iff r (pre ++ [x])]
  constructor
  ·rintro ⟨h1, h2, h3, h4⟩
   obtain ⟨g1, g2, g3, g4⟩ := badA_false h1
   refine ⟨fun a ha => ?_, ?_, fun a ha => ?_⟩
   ·rcases List.mem_cons.1 ha with rfl | ha
    ·exact ⟨⟨g1, g2⟩, g3⟩
    ·exact h2 a ha
   ·rw [List.nodup_cons]
    exact ⟨fun hx => h4 x hx (by simp), h3⟩
   ·rcases List.mem_cons.1 ha with rfl | ha
    ·exact g4
    ·exact fun hc => h4 a ha (List.mem_append_left _ hc)
  ·rintro ⟨h1, h2, h3⟩
   rw [List.nodup_cons] at h2
   obtain ⟨⟨g1, g2⟩, g3⟩ := h1 x (List.mem_cons_self ..)
   refine ⟨?_, fun a ha => h1 a (List.mem_cons_of_mem _ ha), h2.2, fun a ha hc => ?_⟩
   ·unfold badA
    have hn : hasI pre x = false := by
     rw [Bool.eq_false_iff]; intro hc; exact h3 x (List.mem_cons_self ..) (hasI_mem.1 hc)
    rw [hn, g3]
    simp [g1, g2]
   ·rcases List.mem_append.1 hc with hc | hc
    ·exact h3 a (List.mem_cons_of_mem _ ha) hc
    ·rw [List.mem_singleton.1 hc] at ha; exact h2.1 ha
theorem vd_iff (hf : Flat c) (set : List (List UInt8)) : okA nd [] (set.map (atomOf nd)) = true ↔ VD set c.States := by
 rw [okA_iff h]
 unfold VD
 have hl := nd_len h
 have hv : (∀ a ∈ set.map (atomOf nd), (0 ≤ a ∧ a < nd.length) ∧ kdI nd a = 1) ↔ ∀ nm ∈ set, ∃ x ∈ flL c.States, x.Name = nm ∧ x.Kids.length = 0 := by
  constructor
  ·intro hv nm hm
   obtain ⟨⟨h1, h2⟩, h3⟩ := hv _ (List.mem_map.2 ⟨nm, hm, rfl⟩)
   rcases atom_spec h nm with ⟨p, x, hx, hn⟩ | ⟨hx, _⟩
   ·have hs := m_state h hx
    rw [(par_at h hx).2] at h3
    exact ⟨x, hs, hn, (kindN_one (hf.2.2 x hs)).1 h3⟩
   ·omega
  ·intro hv a ha
   obtain ⟨nm, hm, rfl⟩ := List.mem_map.1 ha
   obtain ⟨y, hy, hyn, hyk⟩ := hv nm hm
   rcases atom_spec h nm with ⟨p, x, hx, hn⟩ | ⟨_, hx⟩
   ·have hr := nL_rng _ _ _ _ _ _ hx
    have hy' := hy
    rw [← nL_state c.States 0 1] at hy'
    obtain ⟨⟨k, p', y'⟩, hm', rfl⟩ := List.mem_map.1 hy'
    have := (m_uq h hf.1 hx hm' (hn.trans hyn.symm)).2
    subst this
    refine ⟨by omega, ?_⟩
    rw [(par_at h hx).2]
    exact (kindN_one (hf.2.2 _ hy)).2 hyk
   ·exact absurd hyn (hx y hy)
 rw [hv]
 constructor
 ·rintro ⟨h1, h2, _⟩
  refine ⟨h1, ?_⟩
  exact nodup_of_map _ _ h2
 ·rintro ⟨h1, h2⟩
  refine ⟨h1, ?_, fun _ _ hc => by cases hc⟩
  have inj : ∀ a ∈ set, ∀ b ∈ set, atomOf nd a = atomOf nd b → a = b := by
   intro a ha b hb he
   obtain ⟨y, hy, hyn, _⟩ := h1 a ha
   obtain ⟨z, hz, hzn, _⟩ := h1 b hb
   rcases atom_spec h a with ⟨p, x, hx, hn⟩ | ⟨_, hx⟩
   ·rcases atom_spec h b with ⟨p', x', hx', hn'⟩ | ⟨_, hx'⟩
    ·rw [he] at hx
     have := m_fst h hx hx'
     rw [← hn, ← hn', this]
    ·exact absurd hzn (hx' z hz)
   ·exact absurd hyn (hx y hy)
  clear h1 hv
  induction set with
  | nil => simp
  | cons x r ih =>
   rw [List.nodup_cons] at h2
   rw [List.map_cons, List.nodup_cons]
   refine ⟨fun hc => ?_, ih h2.2 fun a ha b hb => inj a (List.mem_cons_of_mem _ ha) b (List.mem_cons_of_mem _ hb)⟩
   obtain ⟨y, hy, he⟩ := List.mem_map.1 hc
   have := inj y (List.mem_cons_of_mem _ hy) x (List.mem_cons_self ..) he
   exact h2.1 (this ▸ hy)
end
theorem act_leaf (set : List (List UInt8)) (s : State) : act set s = true ↔ ∃ x ∈ flS s, x.Kids.length = 0 ∧ x.Name ∈ set := by
 have hs : hasN set s = ((leafs [s]).map fun s => cntN set s.Name).sum := by
  rw [← hasL_sum]; simp [hasL]
 have hl : leafs [s] = (flS s).filter fun s => s.Kids.length == 0 := by simp [leafs, flL]
 have hcm : ∀ nm, 0 < cntN set nm ↔ nm ∈ set := by
  intro nm
  unfold cntN
  constructor
  ·intro hp
   obtain ⟨y, hy⟩ := List.exists_mem_of_length_pos (show 0 < (set.filter fun e => e == nm).length by omega)
   rw [List.mem_filter] at hy
   have : y = nm := by simpa using hy.2
   exact this ▸ hy.1
  ·intro hm
   have : nm ∈ set.filter fun e => e == nm := List.mem_filter.2 ⟨hm, by simp⟩
   have := List.length_pos_of_mem this
   omega
 have key : ∀ L : List State, 0 ≤ (L.map fun s => cntN set s.Name).sum ∧ ((L.map fun s => cntN set s.Name).sum ≠ 0 ↔ ∃ x ∈ L, x.Name ∈ set) := by
  intro L
  induction L with
  | nil => simp
  | cons y r ih =>
   have h0 : 0 ≤ cntN set y.Name := by unfold cntN; omega
   have h1 := hcm y.Name
   simp only [List.map_cons, List.sum_cons, List.mem_cons]
   refine ⟨by omega, ?_⟩
   constructor
   ·intro hne
    by_cases hy : y.Name ∈ set
    ·exact ⟨y, .inl rfl, hy⟩
    ·have : ¬ 0 < cntN set y.Name := fun hc => hy (h1.1 hc)
     obtain ⟨x, hx, hx2⟩ := ih.2.1 (by omega)
     exact ⟨x, .inr hx, hx2⟩
   ·rintro ⟨x, hx, hx2⟩
    rcases hx with rfl | hx
    ·have := h1.2 hx2; omega
    ·have := ih.2.2 ⟨x, hx, hx2⟩; omega
 unfold act
 simp only [Bool.not_eq_true', beq_eq_false_iff_ne, ne_eq]
 rw [hs]
 have := (key (leafs [s])).2
 rw [ne_eq] at this
 rw [this, hl]
 constructor
 ·rintro ⟨x, hx, h2⟩
  rw [List.mem_filter] at hx
  exact ⟨x, hx.1, by simpa using hx.2, h2⟩
 ·rintro ⟨x, hx, h2, h3⟩
  exact ⟨x, List.mem_filter.2 ⟨hx, by simp [h2]⟩, h3⟩
section
variable {c : Chart} {nd : List Node} (h : nd.map tri = Tn c)
include h
theorem full_eq (hf : Flat c) (set : List (List UInt8)) : fullB nd (set.map (atomOf nd)) = leavesB c.States set := by
 have hl := nd_len h
 have hl63 := hf.2.1
 rw [Bool.eq_iff_iff, leavesB_iff2 set c.States hf.1 hf.2.2]
 unfold fullB
 rw [Bool.and_eq_true, vd_iff h hf set]
 refine and_congr_right fun vd => ?_
 -- atoms
 have hat : ∀ a ∈ set.map (atomOf nd), ∃ p x, (a, p, x) ∈ nL 0 1 c.States ∧ x.Name ∈ set ∧ x.Kids.length = 0 ∧ (0 ≤ a ∧ a < nd.length) := by
  intro a ha
  obtain ⟨nm, hm, rfl⟩ := List.mem_map.1 ha
  obtain ⟨y, hy, hyn, hyk⟩ := vd.1 nm hm
  rcases atom_spec h nm with ⟨p, x, hx, hn⟩ | ⟨_, hx⟩
  ·have hr := nL_rng _ _ _ _ _ _ hx
   have hy' := hy
   rw [← nL_state c.States 0 1] at hy'
   obtain ⟨⟨k, p', y'⟩, hm', rfl⟩ := List.mem_map.1 hy'
   have := (m_uq h hf.1 hx hm' (hn.trans hyn.symm)).2
   subst this
   exact ⟨p, _, hx, hn ▸ hm, hyk, by omega⟩
  ·exact absurd hyn (hx y hy)
 have hconf : ∀ q, hasI (ofL (allA nd (set.map (atomOf nd)))) q = true ↔ (0 ≤ q ∧ q < 128) ∧ ∃ a ∈ set.map (atomOf nd), q ∈ chn (parI nd) 64 a := by
  intro q
  rw [hasI_mem]
  unfold ofL
  rw [ofF_mem]
  unfold allA
  rw [List.mem_flatMap]
  constructor
  ·rintro ⟨⟨h1, h2⟩, h3⟩; exact ⟨⟨h1, by omega⟩, h3⟩
  ·rintro ⟨⟨h1, h2⟩, h3⟩; exact ⟨⟨h1, by omega⟩, h3⟩
 generalize hcf : ofL (allA nd (set.map (atomOf nd))) = conf at *
 have hact : ∀ q p s, (q, p, s) ∈ nL 0 1 c.States → (hasI conf q = act set s) := by
  intro q p s hq
  have hr := nL_rng _ _ _ _ _ _ hq
  rw [Bool.eq_iff_iff, hconf, act_leaf]
  obtain ⟨e1, e2⟩ := nL_sub _ _ _ _ _ _ hq
  constructor
  ·rintro ⟨_, a, ha, hc⟩
   obtain ⟨p', x, hx, hn, hk, hb⟩ := hat a ha
   have := (chn_int h hq 64 a hb.1 (by omega) hb.2).1 hc
   exact ⟨x, e1 _ _ _ hx this.1 this.2, hk, hn⟩
  ·rintro ⟨x, hx, hk, hn⟩
   refine ⟨by omega, atomOf nd x.Name, List.mem_map.2 ⟨_, hn, rfl⟩, ?_⟩
   obtain ⟨k, p', hm, g1, g2⟩ := e2 x hx
   obtain ⟨p2, x2, hx2, hn2, hk2, hb⟩ := hat _ (List.mem_map.2 ⟨x.Name, hn, rfl⟩)
   have hn3 : x2.Name = x.Name := by
    rcases atom_spec h x.Name with ⟨p3, x3, hx3, hn3⟩ | ⟨hx3, _⟩
    ·rw [m_fst h hx2 hx3]; exact hn3
    ·omega
   have := (m_uq h hf.1 hx2 hm hn3).1
   rw [this] at hb ⊢
   exact (chn_int h hq 64 k hb.1 (by omega) hb.2).2 ⟨g1, g2⟩
 have hkI : ∀ q, 0 ≤ q → ((kI q 0 nd).filter (hasI conf)).length = ((((nL 0 1 c.States).filter fun x => x.2.1 == q).map (·.2.2)).filter (act set)).length ∧ (kI q 0 nd).length = (((nL 0 1 c.States).filter fun x => x.2.1 == q).map (·.2.2)).length := by
  intro q hq
  rw [kI_nd h hq]
  refine ⟨?_, by simp⟩
  rw [List.filter_map, List.filter_map, List.length_map, List.length_map]
  congr 1
  apply List.filter_congr
  rintro ⟨k, p, x⟩ hx
  exact hact k p x (List.mem_filter.1 hx).1
 have hc0 : condB nd conf 0 = true ↔ (c.States.filter (act set)).length = 1 := by
  obtain ⟨y, hy, hk, _⟩ := nd_zero h
  have hkd : kdI nd 0 = 2 := by unfold kdI; rw [show (0 : Int).toNat = 0 from rfl, hy]; exact hk
  obtain ⟨k1, k2⟩ := hkI 0 (by omega)
  rw [nL_top c.States 0 1 (by omega)] at k1 k2
  unfold condB
  rw [hkd, k1]
  simp only [show ((2 : Int) == 2) = true from rfl, show ((2 : Int) == 3) = false from rfl, Bool.true_and, Bool.false_and, Bool.not_false, Bool.and_true, Bool.not_eq_true', bne_eq_false_iff_eq]
  omega
 have hcq : ∀ q p s, (q, p, s) ∈ nL 0 1 c.States → (condB nd conf q = true ↔ cP set s) := by
  intro q p s hq
  have hr := nL_rng _ _ _ _ _ _ hq
  obtain ⟨k1, k2⟩ := hkI q (by omega)
  rw [nL_kids c.States 0 1 (by omega) q p s hq] at k1 k2
  unfold condB cP
  rw [(par_at h hq).2, k1, k2]
  by_cases e2 : kindN s = 2
  ·simp only [e2, show ((2 : Int) == 2) = true from rfl, show ((2 : Int) == 3) = false from rfl, Bool.true_and, Bool.false_and, Bool.not_false, Bool.and_true, Bool.not_eq_true', bne_eq_false_iff_eq, true_implies, show ¬ ((2 : Int) = 3) by decide, false_implies, and_true]
   omega
  ·by_cases e3 : kindN s = 3
   ·simp only [e3, show ((3 : Int) == 2) = false from rfl, show ((3 : Int) == 3) = true from rfl, Bool.true_and, Bool.false_and, Bool.not_false, Bool.true_and, Bool.not_eq_true', bne_eq_false_iff_eq, true_implies, show ¬ ((3 : Int) = 2) by decide, false_implies, true_and]
    omega
   ·have b2 : (kindN s == 2) = false := by simpa using e2
    have b3 : (kindN s == 3) = false := by simpa using e3
    simp [b2, b3, e2, e3]
 rw [Bool.and_eq_true]
 constructor
 ·rintro ⟨h0, hall⟩
  have hm0 := hasI_mem.1 h0
  refine ⟨hc0.1 (List.all_eq_true.1 hall 0 hm0), fun s hs ha => ?_⟩
  rw [← nL_state c.States 0 1] at hs
  obtain ⟨⟨q, p, s'⟩, hq, rfl⟩ := List.mem_map.1 hs
  have : hasI conf q = true := by rw [hact q p s' hq]; exact ha
  exact (hcq q p s' hq).1 (List.all_eq_true.1 hall q (hasI_mem.1 this))
 ·rintro ⟨h1, h2⟩
  have hex : ∃ s ∈ c.States, act set s = true := by
   obtain ⟨x, hx⟩ := List.exists_mem_of_length_pos (show 0 < (c.States.filter (act set)).length by omega)
   exact ⟨x, (List.mem_filter.1 hx).1, (List.mem_filter.1 hx).2⟩
  obtain ⟨s0, _, ha0⟩ := hex
  obtain ⟨x0, _, _, hn0⟩ := (act_leaf set s0).1 ha0
  obtain ⟨p, x, hx, _, _, hb⟩ := hat _ (List.mem_map.2 ⟨_, hn0, rfl⟩)
  refine ⟨(hconf 0).2 ⟨by omega, _, List.mem_map.2 ⟨_, hn0, rfl⟩, chn_zero h hf 64 _ hb.1 (by omega) hb.2⟩, List.all_eq_true.2 fun q hq => ?_⟩
  by_cases hz : q = 0
  ·subst hz; exact hc0.2 h1
  ·obtain ⟨⟨g1, g2⟩, a, ha, hc⟩ := (hconf q).1 (hasI_mem.2 hq)
   obtain ⟨p', x', hx', _, _, hb'⟩ := hat a ha
   have hrg := (chn_mem nd (ndOk h hf) 64 a (by omega) hb'.2 q hc).1
   obtain ⟨p2, s2, hq2⟩ := node_inv h (k := q) (by omega) hrg.2
   have : act set s2 = true := by rw [← hact q p2 s2 hq2]; exact hasI_mem.2 hq
   exact (hcq q p2 s2 hq2).2 (h2 s2 (m_state h hq2) this)
end
theorem trL_all (l : List State) : ∀ (top : Bool) (out : List State), out.length ≤ 63 → (trL top out l).1 = 0 → (out ++ flL l).length ≤ 63 ∧ ∀ s ∈ flL l, ∃ t, badS t s = false := by
 refine State.rec_1 (motive_1 := fun s => ∀ (top : Bool) (out : List State), out.length ≤ 63 → (tr1 top out s).1 = 0 → (out ++ flS s).length ≤ 63 ∧ ∀ x ∈ flS s, ∃ t, badS t x = false) (motive_2 := fun l => ∀ (top : Bool) (out : List State), out.length ≤ 63 → (trL top out l).1 = 0 → (out ++ flL l).length ≤ 63 ∧ ∀ s ∈ flL l, ∃ t, badS t s = false) ?_ ?_ ?_ l
 ·intro k n en ex tr kids a ih top out hu h
  rw [tr1_eq] at h
  obtain ⟨h1, h2⟩ := orF_fst.1 h
  unfold chkS at h1
  obtain ⟨h3, h4⟩ := orF_fst.1 h1
  have h5 := (orF_fst.1 h4).2
  rw [chk_fst (by decide)] at h3 h5
  have h6 := of_decide_eq_true h3
  obtain ⟨g1, g2⟩ := ih false _ (by simp; omega) h2
  rw [flS_cons]
  refine ⟨by simpa using g1, fun x hx => ?_⟩
  rcases List.mem_cons.1 hx with rfl | hx
  ·exact ⟨top, by simpa using h5⟩
  ·exact g2 x hx
 ·intro top out hu _
  exact ⟨by simpa [flL] using hu, fun s hs => by simp [flL] at hs⟩
 ·intro s r h1 h2 top out hu h
  simp only [trL] at h
  obtain ⟨g1, g2⟩ := orF_fst.1 h
  obtain ⟨a1, a2⟩ := h1 top out hu g1
  obtain ⟨b1, b2⟩ := h2 top _ a1 g2
  refine ⟨by simpa [flL] using b1, fun x hx => ?_⟩
  simp only [flL, List.mem_append] at hx
  rcases hx with hx | hx
  ·exact a2 x hx
  ·exact b2 x hx
def GoodC (c : Chart) : Prop := ChOk c ∧ (trL true [] c.States).1 = 0
theorem c0_good : GoodC c0 := by
 refine ⟨⟨?_, ?_, ?_, ?_, ?_⟩, ?_⟩ <;> simp [c0, szSs, okSs, trL]
theorem good_flat {c : Chart} (h : GoodC c) (hh : (flL c.States).any isH = false) : Flat c := by
 obtain ⟨h1, h2⟩ := h
 obtain ⟨a1, a2⟩ := trL_all c.States true [] (by simp) h2
 refine ⟨by simpa using trL_uq c.States true [] (by simp [Uq]) h2, by simpa using a1, fun s hs => ?_⟩
 have hk := (okS_kind (okSs_fl c.States h1.2.2.2.2 s hs)).1
 have hn : isH s = false := by
  have := List.any_eq_false.1 hh s hs
  simpa using this
 unfold isH at hn
 simp only [Bool.or_eq_false_iff, beq_eq_false_iff_ne, ne_eq] at hn
 refine ⟨by omega, fun h2 hz => ?_⟩
 obtain ⟨t, ht⟩ := a2 s hs
 unfold badS at ht
 simp only [Bool.or_eq_false_iff, Bool.and_eq_false_iff] at ht
 have hnil : s.Kids = [] := List.eq_nil_of_length_eq_zero hz
 rcases ht.1.2 with h | h
 ·simp [h2] at h
 ·simp [hnil] at h
theorem gP_good {Cs : List Chart} (h : (gP chartG [] Cs).1 = 0) (hc : ∀ c ∈ Cs, ChOk c) : ∀ c ∈ Cs, GoodC c := by
 intro c hm
 obtain ⟨p, hp⟩ := gP_fst _ _ _ h c hm
 unfold chartG chF at hp
 exact ⟨hc c hm, (orF_fst.1 (orF_fst.1 (orF_fst.1 hp).2).2).1⟩
section
variable {R : Type} {N : Nat}
theorem rstate_eq (c : Chart) (nm : List UInt8) (k : Bool → Option R) (hN : big ≤ N) (hc : ChOk c) (hf : Flat c) : r12_state N c.Name c.Steps c.Fuel c.Vars c.Ports c.Timers c.States c.At nm k = k ((flL c.States).any fun e => e.Name == nm) := by
 have hb : big = 1000000000 := rfl
 have h4 := hc.2.2.2.1
 have h63 := hf.2.1
 unfold r12_state
 obtain ⟨nd, g1, g2⟩ := nodes_eq c (fun (r1 : List Node) =>
 r13_Find N r1 nm (fun (r2 : Int) =>
 (ifB (decide (r2 > 0)) true ((at? r1 r2).bind fun e3 =>
 some (decide (e3.Kind ≤ 3))) (some false)).bind fun c4 =>
 k c4)) hN (by omega)
 have hl := nd_len g2
 rw [g1, rfind_eq _ _ _ hN (by omega)]
 change ((ifB (decide (atomOf nd nm > 0)) true ((at? nd (atomOf nd nm)).bind fun e3 => some (decide (e3.Kind ≤ 3))) (some false)).bind fun c4 => k c4) = _
 rcases atom_spec g2 nm with ⟨p, x, hx, hn⟩ | ⟨hx, hn⟩
 ·obtain ⟨y, hy, k1, k2, k3, k4⟩ := node_at g2 hx
  have hs := m_state g2 hx
  have := kindN_le (hf.2.2 x hs).1
  rw [at_some (by omega) hy]
  have ha : ((flL c.States).any fun e => e.Name == nm) = true := List.any_eq_true.2 ⟨x, hs, by simp [hn]⟩
  rw [ha, decide_eq_true (show atomOf nd nm > 0 by omega)]
  simp [ifB, show y.Kind ≤ 3 by omega]
 ·have ha : ((flL c.States).any fun e => e.Name == nm) = false := by
   rw [List.any_eq_false]
   intro x hx
   simpa using hn x hx
  rw [hx, ha]
  simp [ifB]
theorem rset_eq (c : Chart) (set : List (List UInt8)) (k : List Int → Bool → Option R) (hN : big ≤ N) (hc : ChOk c) (hf : Flat c) (hs : set.length ≤ 16386) : ∃ L, r12_Set N c.Name c.Steps c.Fuel c.Vars c.Ports c.Timers c.States c.At set k = k L (leavesB c.States set) := by
 have hb : big = 1000000000 := rfl
 have h4 := hc.2.2.2.1
 have h63 := hf.2.1
 unfold r12_Set
 obtain ⟨nd, g1, g2⟩ := nodes_eq c (fun (r1 : List Node) =>
 r12_Set_l0 N set r1 (fun (y13 : List Int) =>
 r13_Full N r1 y13 (fun (r14 : List Int) (r15 : Bool) =>
 k r14 r15)) N 0 ([] : List Int)) hN (by omega)
 have hl := nd_len g2
 obtain ⟨L, hL⟩ := rfull_eq nd (set.map (atomOf nd)) k hN (ndOk g2 hf) (by simpa using hs)
 refine ⟨L, ?_⟩
 rw [g1, ← full_eq g2 hf set, ← hL]
 have := foldsI (fun _ e (a : List Int) => a ++ [atomOf nd e]) (fun pre a => a.length = pre.length) (fun y13 => r13_Full N nd y13 (fun (r14 : List Int) (r15 : Bool) => k r14 r15)) (l := set) (by omega) (fun n i a => r12_Set_l0 N set nd (fun (y13 : List Int) =>
 r13_Full N nd y13 (fun (r14 : List Int) (r15 : Bool) =>
 k r14 r15)) n i a) (fun n pre e rest a h hi h1 h2 => ⟨?_, by simp [hi]⟩) (fun n a hi => ?_) set [] [] N rfl rfl (by omega)
 ·rw [foldP_foldl (fun (a : List Int) (e : List UInt8) => a ++ [atomOf nd e])] at this
  refine Eq.trans this ?_
  have hfo : ∀ (l : List (List UInt8)) (a : List Int), l.foldl (fun a e => a ++ [atomOf nd e]) a = a ++ l.map (atomOf nd) := by
   intro l
   induction l with
   | nil => intro a; simp
   | cons e r ih => intro a; simp only [List.foldl_cons, ih, List.map_cons]; simp
  rw [hfo]; rfl
 ·have hpl : pre.length ≤ set.length := by rw [h]; simp
  simp only [r12_Set_l0, r12_Set_l0_b, h1, h2, if_true, Option.bind_some]
  rw [rfind_eq _ _ _ hN (by omega)]
  change (if a.length + [atomOf nd e].length ≤ maxRow then _ else none) = _
  rw [if_pos (by simp [maxRow]; omega)]
  rfl
 ·simp only [r12_Set_l0, r12_Set_l0_b]
  simp
end
def subB (a b : List (List UInt8)) : Bool := (a.all fun e => b.any fun x => x == e) && (((a.length : Nat) : Int) == ((b.length : Nat) : Int))
def simB (y c : Cell) : Bool := ((y.Sets.zip c.Sets).all fun p => subB p.1 p.2) && ((y.Msgs.zip c.Msgs).all fun p => rowB p.1 p.2)
theorem sub_back : ∀ (a b : List (List UInt8)), a.Nodup → (∀ x ∈ a, x ∈ b) → b.length ≤ a.length → ∀ y ∈ b, y ∈ a
 | [], b, _, _, hl, y, hy => by
  have : b = [] := List.eq_nil_of_length_eq_zero (by simpa using hl)
  subst this; exact hy
 | x :: r, b, hn, hs, hl, y, hy => by
  rw [List.nodup_cons] at hn
  have hx := hs x (List.mem_cons_self ..)
  have hlen := List.length_erase_of_mem hx
  have hlp := List.length_pos_of_mem hx
  by_cases hyx : y = x
  ·subst hyx; exact List.mem_cons_self ..
  ·refine List.mem_cons_of_mem _ (sub_back r (b.erase x) hn.2 (fun z hz => ?_) (by simp at hl; omega) y ((List.mem_erase_of_ne hyx).2 hy))
   exact (List.mem_erase_of_ne (fun hc : z = x => hn.1 (by rw [← hc]; exact hz))).2 (hs z (List.mem_cons_of_mem _ hz))
theorem sub_same {a b : List (List UInt8)} (ha : a.Nodup) (hb : b.Nodup) : subB a b = sameSetB b a := by
 unfold subB sameSetB
 rw [Bool.eq_iff_iff]
 simp only [Bool.and_eq_true, List.all_eq_true, List.any_eq_true, beq_iff_eq, Bool.not_eq_true', List.any_eq_false, Bool.not_eq_false', exists_eq_right, exists_eq_right']
 constructor
 ·rintro ⟨h1, h2⟩
  refine ⟨h2.symm, fun y hy => ?_⟩
  have := sub_back a b ha (fun x hx => h1 x hx) (by omega) y hy
  simpa using this
 ·rintro ⟨h1, h2⟩
  refine ⟨fun x hx => ?_, h1.symm⟩
  have := sub_back b a hb (fun y hy => by have := h2 y hy; simpa using this) (by omega) x hx
  exact this
theorem zip_swap {α β : Type} (f : α × β → Bool) (g : β × α → Bool) : ∀ (a : List α) (b : List β), (∀ x y, x ∈ a → y ∈ b → f (x, y) = g (y, x)) → (a.zip b).all f = (b.zip a).all g
 | [], b, _ => by cases b <;> rfl
 | x :: r, [], _ => rfl
 | x :: r, y :: s, h => by
  simp only [List.zip_cons_cons, List.all_cons]
  rw [h x y (List.mem_cons_self ..) (List.mem_cons_self ..), zip_swap f g r s fun u v hu hv => h u v (List.mem_cons_of_mem _ hu) (List.mem_cons_of_mem _ hv)]
theorem row_comm (a b : List (List UInt8)) : rowB a b = rowB b a := by
 unfold rowB
 rw [zip_swap (fun p => p.1 == p.2) (fun p => p.1 == p.2) a b fun x y _ _ => by rw [Bool.eq_iff_iff]; simp only [beq_iff_eq]; exact eq_comm]
 congr 1
 exact decide_eq_decide.2 eq_comm
theorem sim_alike {y c : Cell} (h1 : y.Sets.length = c.Sets.length) (h2 : y.Msgs.length = c.Msgs.length) (hy : ∀ s ∈ y.Sets, s.Nodup) (hc : ∀ s ∈ c.Sets, s.Nodup) : simB y c = alikeB c y := by
 unfold simB alikeB setsB rowsB
 rw [decide_eq_true h1.symm, decide_eq_true h2.symm, Bool.true_and, Bool.true_and]
 rw [zip_swap (fun p => subB p.1 p.2) (fun p => sameSetB p.1 p.2) y.Sets c.Sets fun a b ha hb => sub_same (hy a ha) (hc b hb)]
 rw [zip_swap (fun p => rowB p.1 p.2) (fun p => rowB p.1 p.2) y.Msgs c.Msgs fun a b _ _ => row_comm a b]
section
variable {R : Type} {N : Nat}
theorem rsame_eq (a b : List (List UInt8)) (k : Bool → Option R) (hN : big ≤ N) (ha : a.length < big) (hb : b.length < big) : r12_sameSet N a b k = k (subB a b) := by
 unfold r12_sameSet subB
 have := search (l := a) (fun e => !b.any fun x => x == e) (fun j => if j < 0 then k (((a.length : Nat) : Int) == ((b.length : Nat) : Int)) else k false) ha (fun n i => r12_sameSet_l0 N a b (k (((a.length : Nat) : Int) == ((b.length : Nat) : Int))) (fun y => k y) n i) (fun n i e h0 h1 h2 h3 h4 => ?_) (fun n i h => ?_) N (by omega)
 ·refine Eq.trans this ?_
  rw [all_any, ← idx_any']
  by_cases hz : idx (fun e => !b.any fun x => x == e) a < 0
  ·rw [if_pos hz, decide_eq_true hz, Bool.true_and]
  ·rw [if_neg hz, decide_eq_false hz, Bool.false_and]
 ·simp only [r12_sameSet_l0, r12_sameSet_l0_b, h2, h3, if_true, Option.bind_some]
  rw [r12has_eq _ _ _ hN hb, if_neg (show ¬ i < 0 by omega)]
 ·simp only [r12_sameSet_l0, r12_sameSet_l0_b, h]
  simp
theorem rtexts_eq (a b : List (List UInt8)) (k : Bool → Option R) (hN : big ≤ N) (ha : a.length < big) : r10_Texts N a b k = k (rowB a b) := by
 unfold r10_Texts rowB
 by_cases h : a.length = b.length
 ·have h' : ((((a.length : Nat) : Int) != ((b.length : Nat) : Int))) = false := by simp [h]
  simp only [h', Bool.false_eq_true, if_false]
  rw [decide_eq_true h, Bool.true_and]
  refine zips a b (fun p => p.1 == p.2) k (by omega) h (fun n i => r10_Texts_l0 N a b (k true) (fun y => k y) n i) (fun n i e h0 h1 h2 h3 h4 h5 => ?_) (fun n i h => ?_) N (by omega)
  ·simp only [r10_Texts_l0, r10_Texts_l0_b, h2, h3, h4, if_true, Option.bind_some]
  ·simp only [r10_Texts_l0, r10_Texts_l0_b, h]
   simp
 ·have h' : ((((a.length : Nat) : Int) != ((b.length : Nat) : Int))) = true := by simp; omega
  simp only [h', if_true]
  rw [decide_eq_false h, Bool.false_and]
theorem rsamecell_eq (y c : Cell) (k : Bool → Option R) (hN : big ≤ N) (hy : CellOk y) (hc : CellOk c) (h1 : y.Sets.length = c.Sets.length) (h2 : y.Msgs.length = c.Msgs.length) : r12_sameCell N y.Rank y.Sets y.Msgs y.At c.Rank c.Sets c.Msgs c.At k = k (simB y c) := by
 have hbig : big = 1000000000 := rfl
 have hB : B = 16386 := rfl
 have l1 := hy.1.1; have l2 := hy.2.1
 unfold r12_sameCell simB
 have m := zips y.Msgs c.Msgs (fun p => rowB p.1 p.2) (fun b => k b) (by omega) h2 (fun n i => r12_sameCell_l2 N y.Rank y.Sets y.Msgs y.At c.Rank c.Sets c.Msgs c.At (k true) (fun z => k z) n i) (fun n i e g0 g1 g2 g3 g4 g5 => ?_) (fun n i h => ?_) N (by omega)
 rotate_left
 ·have e1 := hy.2.2 e.1 (List.of_mem_zip g5).1
  simp only [r12_sameCell_l2, r12_sameCell_l2_b, g2, g3, g4, if_true, Option.bind_some]
  rw [rtexts_eq _ _ _ hN (by omega)]
 ·simp only [r12_sameCell_l2, r12_sameCell_l2_b, h]
  simp
 have s := zips y.Sets c.Sets (fun p => subB p.1 p.2) (fun b => if b = true then r12_sameCell_l2 N y.Rank y.Sets y.Msgs y.At c.Rank c.Sets c.Msgs c.At (k true) (fun z => k z) N 0 else k false) (by omega) h1 (fun n i => r12_sameCell_l0 N y.Rank y.Sets y.Msgs y.At c.Rank c.Sets c.Msgs c.At (r12_sameCell_l2 N y.Rank y.Sets y.Msgs y.At c.Rank c.Sets c.Msgs c.At (k true) (fun z => k z) N 0) (fun z => k z) n i) (fun n i e g0 g1 g2 g3 g4 g5 => ?_) (fun n i h => ?_) N (by omega)
 ·refine Eq.trans s ?_
  rw [m]
  cases (y.Sets.zip c.Sets).all fun p => subB p.1 p.2 <;> simp
 ·have e1 := hy.1.2 e.1 (List.of_mem_zip g5).1
  have e2 := hc.1.2 e.2 (List.of_mem_zip g5).2
  simp only [r12_sameCell_l0, r12_sameCell_l0_b, g2, g3, g4, if_true, Option.bind_some]
  rw [rsame_eq _ _ _ hN (by omega) (by omega)]
  rfl
 ·simp only [r12_sameCell_l0, r12_sameCell_l0_b, h]
  simp
end
theorem fits_nodup {Cs : List Chart} {Is : List Inst} {Hs : List Chan} {x : Cert} {c : Cell} (hf : ∀ n ∈ x.Insts, Flat ((chOf Cs Is n).getD c0)) (h : fitsB Cs Is Hs x c = true) : (c.Sets.length = x.Insts.length ∧ c.Msgs.length = x.Chans.length) ∧ ∀ s ∈ c.Sets, s.Nodup := by
 unfold fitsB at h
 simp only [Bool.and_eq_true, decide_eq_true_eq] at h
 obtain ⟨⟨⟨h1, h2⟩, h3⟩, _⟩ := h
 refine ⟨⟨h1, h2⟩, fun s hs => ?_⟩
 obtain ⟨j, hj⟩ := List.getElem?_of_mem hs
 have hlt : j < x.Insts.length := by have := (List.getElem?_eq_some_iff.1 hj).1; omega
 have hz : (s, x.Insts[j]) ∈ c.Sets.zip x.Insts := by
  refine List.mem_of_getElem? (i := j) ?_
  rw [List.getElem?_zip_eq_some]
  exact ⟨hj, List.getElem?_eq_getElem hlt⟩
 unfold setsOk at h3
 have := List.all_eq_true.1 h3 _ hz
 simp only [beq_iff_eq, Bool.and_eq_false_iff, decide_eq_false_iff_not, Bool.not_eq_false'] at this
 rcases this with h | h
 ·have : s = [] := List.eq_nil_of_length_eq_zero (by omega)
  subst this; exact List.nodup_nil
 ·have hfl := hf _ (List.getElem_mem hlt)
  exact ((leavesB_iff2 s _ hfl.1 hfl.2.2).1 h).1.2
section
variable {R : Type} {N : Nat}
theorem rcell_eq (x : Cert) (pre rest : List Cell) (c : Cell) (A : Int) (Cs : List Chart) (Is : List Inst) (Hs : List Chan) (Es : List Cert) (k : Int → Option R) (hN : big ≤ N) (hc : Cs.length < big) (hi : Is.length < big) (hh : Hs.length < big) (hcs : ∀ c ∈ Cs, GoodC c) (hx : CertOk x) (h : x.Cells = pre ++ c :: rest)
  (hm : ∀ n ∈ x.Insts, (chOf Cs Is n).isSome = true ∧ (flL ((chOf Cs Is n).getD c0).States).any isH = false) (hch : ∀ n ∈ x.Chans, (Hs.any fun e => e.Name == n) = true) (hp : ∀ y ∈ pre, fitsB Cs Is Hs x y = true) :
  r12_cell N A Cs Is Hs Es x.Name x.Inst x.Req x.Resp x.Insts x.Chans x.Cells x.At pre.length k = k (cellG Cs Is Hs x pre c).1 := by
 have hbig : big = 1000000000 := rfl
 have hB : B = 16386 := rfl
 obtain ⟨x1, x2, x3, x4⟩ := hx
 have hlen : x.Cells.length = pre.length + (rest.length + 1) := by rw [h]; simp
 have hat : at? x.Cells pre.length = some c := at_some (by omega) (by rw [h]; simp)
 have hgood : ∀ n, GoodC ((chOf Cs Is n).getD c0) := chOf_ok c0_good hcs
 have hflat : ∀ n ∈ x.Insts, Flat ((chOf Cs Is n).getD c0) := fun n hn => good_flat (hgood n) (hm n hn).2
 have hcm : CellOk c := x4 c (by rw [h]; simp)
 unfold r12_cell
 rw [hat, Option.bind_some]
 simp only [ifB_or, Option.bind_some]
 unfold cellG
 have hcnd : (decide (c.Rank < 0) || decide (c.Rank > 64)) = !(decide (c.Rank ≥ 0) && decide (c.Rank ≤ 64)) := by
  rw [Bool.eq_iff_iff]
  simp only [Bool.or_eq_true, decide_eq_true_eq, Bool.not_eq_true', Bool.and_eq_false_iff, decide_eq_false_iff_not]
  omega
 rw [hcnd]
 rcases Bool.eq_false_or_eq_true (decide (c.Rank ≥ 0) && decide (c.Rank ≤ 64)) with h16 | h16
 rotate_left
 ·rw [h16, Bool.not_false, if_pos rfl, chk_false, orF_ne (a := (16, c.At)) _ (by simp)]
 rw [h16, Bool.not_true, if_neg (by simp), chk_true, zero_orF (Nf_orF (Nf_chk _ _ (by decide)) (Nf_chk _ _ (by decide)))]
 by_cases h1 : c.Sets.length = x.Insts.length
 rotate_left
 ·have e1 : (((((c.Sets.length : Nat) : Int) != ((x.Insts.length : Nat) : Int))) || ((((c.Msgs.length : Nat) : Int) != ((x.Chans.length : Nat) : Int)))) = true := by
   simp; omega
  have e2 : fitsB Cs Is Hs x c = false := by unfold fitsB; rw [decide_eq_false h1]; simp
  rw [e1, if_pos rfl, e2, chk_false, orF_ne (a := (18, c.At)) _ (by simp)]
 by_cases h2 : c.Msgs.length = x.Chans.length
 rotate_left
 ·have e1 : (((((c.Sets.length : Nat) : Int) != ((x.Insts.length : Nat) : Int))) || ((((c.Msgs.length : Nat) : Int) != ((x.Chans.length : Nat) : Int)))) = true := by
   simp; omega
  have e2 : fitsB Cs Is Hs x c = false := by unfold fitsB; rw [decide_eq_false h2]; simp
  rw [e1, if_pos rfl, e2, chk_false, orF_ne (a := (18, c.At)) _ (by simp)]
 have e1 : (((((c.Sets.length : Nat) : Int) != ((x.Insts.length : Nat) : Int))) || ((((c.Msgs.length : Nat) : Int) != ((x.Chans.length : Nat) : Int)))) = false := by simp [h1, h2]
 rw [e1, if_neg (by simp)]
 have hfe : fitsB Cs Is Hs x c = (setsOk Cs Is x c && msgsOk Hs x c) := by
  unfold fitsB; rw [decide_eq_true h1, decide_eq_true h2]; simp
 have l1 := hcm.1.1; have l2 := hcm.2.1
 -- alike
 have l4 : fitsB Cs Is Hs x c = true → ∀ kk : Int → Option R, r12_cell_l4 N pre.length x.Name x.Inst x.Req x.Resp x.Insts x.Chans x.Cells x.At c.Rank c.Sets c.Msgs c.At (kk 0) (fun z => kk z) N 0 = kk (chk (!pre.any fun y => alikeB c y) 8 c.At).1 := by
  intro hfit kk
  obtain ⟨⟨_, _⟩, hnd⟩ := fits_nodup hflat hfit
  have := search (l := pre) (fun y => alikeB c y) (fun j => if j < 0 then kk 0 else kk 8) (by omega) (fun n i => r12_cell_l4 N pre.length x.Name x.Inst x.Req x.Resp x.Insts x.Chans x.Cells x.At c.Rank c.Sets c.Msgs c.At (kk 0) (fun z => kk z) n i) (fun n i e g0 g1 g2 g3 g4 => ?_) (fun n i g => ?_) N (by omega)
  ·refine Eq.trans this ?_
   rw [← idx_any']
   by_cases hz : idx (fun y => alikeB c y) pre < 0
   ·rw [if_pos hz, decide_eq_true hz, chk_true]
   ·rw [if_neg hz, decide_eq_false hz, chk_false]
  ·have hem := List.mem_of_getElem? g4
   have hi' : x.Cells[i.toNat]? = some e := by rw [h, List.getElem?_append_left (by omega)]; exact g4
   obtain ⟨⟨q1, q2⟩, q3⟩ := fits_nodup hflat (hp e hem)
   simp only [r12_cell_l4, r12_cell_l4_b, g2, at_some g0 hi', if_true, Option.bind_some]
   rw [rsamecell_eq e c _ hN (x4 e (by rw [h]; exact List.mem_append_left _ hem)) hcm (by omega) (by omega), sim_alike (by omega) (by omega) q3 hnd, if_neg (show ¬ i < 0 by omega)]
  ·simp only [r12_cell_l4, r12_cell_l4_b, g]
   simp
 generalize hk4 : r12_cell_l4 N pre.length x.Name x.Inst x.Req x.Resp x.Insts x.Chans x.Cells x.At c.Rank c.Sets c.Msgs c.At (k 0) (fun z => k z) N 0 = rs4 at *
 have m := zips c.Msgs x.Chans (fun p => match Hs.find? fun e => e.Name == p.2 with
 | some h => decide (((p.1.length : Nat) : Int) ≤ h.Cap)
 | none => false) (fun b => if b = true then rs4 else k 18) (by omega) h2 (fun n i => r12_cell_l2 N pre.length A Cs Is Hs Es x.Name x.Inst x.Req x.Resp x.Insts x.Chans x.Cells x.At c.Rank c.Sets c.Msgs c.At rs4 (fun z => k z) n i) (fun n i e g0 g1 g2 g3 g4 g5 => ?_) (fun n i g => ?_) N (by omega)
 rotate_left
 ·have hany := hch e.2 (List.of_mem_zip g5).2
  simp only [r12_cell_l2, r12_cell_l2_b, g2, g3, g4, if_true, Option.bind_some]
  rw [r12Chan_eq _ _ _ _ _ _ _ hN hh]
  have hz : ¬ idx (fun y => y.Name == e.2) Hs < 0 := by
   intro hc
   have := idx_any' (fun y : Chan => y.Name == e.2) Hs
   rw [hany, decide_eq_true hc] at this
   cases this
  obtain ⟨y, y1, y2⟩ := find_at hz
  rw [y1, Option.bind_some, y2]
  by_cases hcap : ((e.1.length : Nat) : Int) ≤ y.Cap
  ·simp [hcap, show ¬ ((e.1.length : Nat) : Int) > y.Cap by omega]
  ·simp [hcap, show ((e.1.length : Nat) : Int) > y.Cap by omega]
 ·simp only [r12_cell_l2, r12_cell_l2_b, g]
  simp
 generalize hk2 : r12_cell_l2 N pre.length A Cs Is Hs Es x.Name x.Inst x.Req x.Resp x.Insts x.Chans x.Cells x.At c.Rank c.Sets c.Msgs c.At rs4 (fun z => k z) N 0 = rs2 at *
 have s := zips c.Sets x.Insts (fun p => (decide (((p.1.length : Nat) : Int) > 0) && !leavesB ((chOf Cs Is p.2).getD c0).States p.1) == false) (fun b => if b = true then rs2 else k 18) (by omega) h1 (fun n i => r12_cell_l0 N pre.length A Cs Is Hs Es x.Name x.Inst x.Req x.Resp x.Insts x.Chans x.Cells x.At c.Rank c.Sets c.Msgs c.At rs2 (fun z => k z) n i) (fun n i e g0 g1 g2 g3 g4 g5 => ?_) (fun n i g => ?_) N (by omega)
 ·refine Eq.trans s ?_
  have m' : rs2 = if msgsOk Hs x c = true then rs4 else k 18 := m
  show (if setsOk Cs Is x c = true then rs2 else k 18) = _
  rw [m', hfe]
  rw [hfe] at l4
  rcases Bool.eq_false_or_eq_true (setsOk Cs Is x c) with hs | hs
  ·rw [hs, if_pos rfl, Bool.true_and]
   rw [hs, Bool.true_and] at l4
   split
   ·rename_i hmm
    rw [hmm, chk_true, zero_orF (Nf_chk _ _ (by decide)), ← hk4, l4 hmm k]
   ·rename_i hmm
    rw [Bool.eq_false_iff.2 hmm, chk_false, orF_ne (a := (18, c.At)) _ (by simp)]
  ·rw [hs, if_neg (by simp), Bool.false_and, chk_false, orF_ne (a := (18, c.At)) _ (by simp)]
 ·have hin := (List.of_mem_zip g5).2
  have he := hcm.1.2 e.1 (List.of_mem_zip g5).1
  simp only [r12_cell_l0, r12_cell_l0_b, g2, g3, g4, if_true, Option.bind_some]
  rw [rOf_eq _ _ _ _ _ _ _ hN hc hi (hm e.2 hin).1]
  dsimp only
  refine (rset_eq ((chOf Cs Is e.2).getD c0) e.1 _ hN (hgood e.2).1 (hflat e.2 hin) (by omega)).elim fun L hL => hL.trans ?_
  simp only [ifB_and, Option.bind_some]
  cases (decide (((e.1.length : Nat) : Int) > 0) && !leavesB ((chOf Cs Is e.2).getD c0).States e.1) <;> rfl
 ·simp only [r12_cell_l0, r12_cell_l0_b, g]
  simp
end
def memberF (Cs : List Chart) (Is : List Inst) (Hs : List Chan) (x : Cert) : Flt := orF (gP (memG Cs Is x.At) [] x.Insts) (orF (endG Cs Is x) (orF (chk (!(x.Req == x.Resp)) 17 x.At) (gP (mchG Hs x) [] x.Chans)))
theorem certF_eq (Cs : List Chart) (Is : List Inst) (Hs : List Chan) (x : Cert) : certF Cs Is Hs x = orF (memberF Cs Is Hs x) (gP (cellG Cs Is Hs x) [] x.Cells) := by
 unfold certF memberF
 simp only [orF_assoc]
def AtF (a : Int) (f : Flt) : Prop := f.1 ≠ 0 → f.2 = a
theorem AtF_chk (b : Bool) (c a : Int) : AtF a (chk b c a) := by
 unfold AtF chk
 split <;> simp
theorem AtF_orF {a : Int} {f g : Flt} (h1 : AtF a f) (h2 : AtF a g) : AtF a (orF f g) := by
 unfold orF
 split
 ·exact h2
 ·exact h1
theorem AtF_gP {E : Type} {a : Int} {g : List E → E → Flt} (h : ∀ pre e, AtF a (g pre e)) : ∀ (r pre : List E), AtF a (gP g pre r)
 | [], pre => fun h => absurd rfl h
 | e :: r, pre => AtF_orF (h pre e) (AtF_gP h r _)
theorem memberF_at (Cs : List Chart) (Is : List Inst) (Hs : List Chan) (x : Cert) : AtF x.At (memberF Cs Is Hs x) := by
 refine AtF_orF (AtF_gP (fun pre e => AtF_orF (AtF_chk _ _ _) (AtF_orF (AtF_chk _ _ _) (AtF_chk _ _ _))) _ _) (AtF_orF (AtF_chk _ _ _) (AtF_orF (AtF_chk _ _ _) (AtF_gP (fun pre e => AtF_orF (AtF_chk _ _ _) (AtF_orF (AtF_chk _ _ _) ?_)) _ _)))
 split
 ·exact AtF_chk _ _ _
 ·exact fun h => absurd rfl h
theorem cellG_at (Cs : List Chart) (Is : List Inst) (Hs : List Chan) (x : Cert) (pre : List Cell) (c : Cell) : AtF c.At (cellG Cs Is Hs x pre c) := AtF_orF (AtF_chk _ _ _) (AtF_orF (AtF_chk _ _ _) (AtF_chk _ _ _))
theorem Nf_memberF (Cs : List Chart) (Is : List Inst) (Hs : List Chan) (x : Cert) : Nf (memberF Cs Is Hs x) := Nf_orF (Nf_gP (Nf_memG _ _ _) _ _) (Nf_orF (Nf_endG _ _ _) (Nf_orF (Nf_chk _ _ (by decide)) (Nf_gP (Nf_mchG _ _) _ _)))
theorem any_comm (l : List (List UInt8)) (s : List UInt8) : (l.any fun e => e == s) = l.any fun e => s == e := by
 congr 1
 funext e
 rw [Bool.eq_iff_iff]
 simp only [beq_iff_eq]
 exact eq_comm
section
variable {R : Type} {N : Nat}
theorem rmembers_eq (x : Cert) (A : Int) (Cs : List Chart) (Is : List Inst) (Hs : List Chan) (Es : List Cert) (k : Int → Option R) (hN : big ≤ N) (hc : Cs.length < big) (hi : Is.length < big) (hh : Hs.length < big) (hcs : ∀ c ∈ Cs, GoodC c) (hx : CertOk x) (hall : AllCh Cs Is) :
  r12_members N A Cs Is Hs Es x.Name x.Inst x.Req x.Resp x.Insts x.Chans x.Cells x.At k = k (memberF Cs Is Hs x).1 := by
 have hbig : big = 1000000000 := rfl
 have hB : B = 16386 := rfl
 obtain ⟨x1, x2, x3, x4⟩ := hx
 have hgood : ∀ n, GoodC ((chOf Cs Is n).getD c0) := chOf_ok c0_good hcs
 -- channels
 have l3 := (walks (mchG Hs x) (Nf_mchG Hs x) (fun _ => True) (fun c _ => k c) (l := x.Chans) (by omega) (fun n i => r12_members_l3 N A Cs Is Hs Es x.Name x.Inst x.Req x.Resp x.Insts x.Chans x.Cells x.At (k 0) (fun z => k z) n i) (fun n pre e rest h _ h1 h2 => ⟨?_, fun _ => trivial⟩) (k 0) (fun n h _ => ?_) trivial N (by omega)).1
 rotate_left
 ·have hpl : pre.length ≤ x.Chans.length := by rw [h]; simp
  simp only [r12_members_l3, r12_members_l3_b, h1, h2, if_true, Option.bind_some]
  rw [r12Chan_eq _ _ _ _ _ _ _ hN hh, idx_any', if_pos (g01 hpl), take_pre h, r12has_eq _ _ _ hN (by omega), any_comm]
  unfold mchG
  rcases Bool.eq_false_or_eq_true (Hs.any fun y => y.Name == e) with h7 | h7
  rotate_left
  ·rw [h7, Bool.not_false, if_pos rfl, chk_false, orF_ne (a := (7, x.At)) _ (by simp), if_neg (by simp)]; rfl
  rw [h7, Bool.not_true, if_neg (by simp), chk_true]
  have hz : ¬ idx (fun y => y.Name == e) Hs < 0 := by
   intro hc
   have := idx_any' (fun y : Chan => y.Name == e) Hs
   rw [h7, decide_eq_true hc] at this
   cases this
  obtain ⟨y, y1, y2⟩ := find_at hz
  rw [y2]
  dsimp only
  rw [zero_orF (Nf_orF (Nf_chk _ _ (by decide)) (Nf_chk _ _ (by decide)))]
  rcases Bool.eq_false_or_eq_true (pre.any fun n => e == n) with h8 | h8
  ·rw [h8, if_pos rfl, Bool.not_true, chk_false, orF_ne (a := (8, x.At)) _ (by simp), if_neg (by simp)]; rfl
  rw [h8, if_neg (by simp), Bool.not_false, chk_true, zero_orF (Nf_chk _ _ (by decide)), y1, Option.bind_some, Option.bind_some, r12has_eq _ _ _ hN (by omega)]
  simp only [r12has_eq _ _ _ hN (show x.Insts.length < big by omega), ifB_or, Option.bind_some, any_comm]
  rcases Bool.eq_false_or_eq_true ((x.Insts.any fun n => y.From == n) && x.Insts.any fun n => y.To == n) with hr | hr
  ·have h' := hr
   rw [Bool.and_eq_true] at h'
   rw [hr, h'.1, h'.2, chk_true]; simp
  ·rw [hr, chk_false]
   have h' := hr
   rw [Bool.and_eq_false_iff] at h'
   have : (!(x.Insts.any fun n => y.From == n) || !(x.Insts.any fun n => y.To == n)) = true := by
    rcases h' with h' | h' <;> simp [h']
   rw [this, if_pos rfl, if_neg (by simp)]; rfl
 ·simp only [r12_members_l3, r12_members_l3_b, h]
  simp
 have hl3 : ∀ f, f = gP (mchG Hs x) [] x.Chans → (if f.1 = 0 then k 0 else kf (fun c _ => k c) f) = k f.1 := by
  intro f _
  split
  ·rename_i hz; rw [hz]
  ·rfl
 rw [hl3 _ rfl] at l3
 have c12 : r12_members_c12 N A Cs Is Hs Es x.Name x.Inst x.Req x.Resp x.Insts x.Chans x.Cells x.At (fun z => k z) = k (orF (chk (!(x.Req == x.Resp)) 17 x.At) (gP (mchG Hs x) [] x.Chans)).1 := by
  unfold r12_members_c12
  rcases Bool.eq_false_or_eq_true (x.Req == x.Resp) with h | h
  ·rw [h, if_pos rfl, Bool.not_true, chk_false, orF_ne (a := (17, x.At)) _ (by simp)]
  ·rw [h, if_neg (by simp), Bool.not_false, chk_true, zero_orF (Nf_gP (Nf_mchG _ _) _ _)]
   exact l3
 generalize hK0 : (r12_has N x.Insts x.Inst (fun (r30 : Bool) =>
 (ifB (!r30) false (r12_Of N A Cs Is Hs Es x.Inst (fun (r31 : List UInt8) (r32 : Int) (r33 : Int) (r34 : List Named) (r35 : List Named) (r36 : List Named) (r37 : List State) (r38 : Int) =>
 r12_state N r31 r32 r33 r34 r35 r36 r37 r38 x.Req (fun (r39 : Bool) =>
 some (!r39)))) (some true)).bind fun c40 =>
 (ifB c40 false (r12_Of N A Cs Is Hs Es x.Inst (fun (r41 : List UInt8) (r42 : Int) (r43 : Int) (r44 : List Named) (r45 : List Named) (r46 : List Named) (r47 : List State) (r48 : Int) =>
 r12_state N r41 r42 r43 r44 r45 r46 r47 r48 x.Resp (fun (r49 : Bool) =>
 some (!r49)))) (some true)).bind fun c50 =>
 if c50 = true then
  (k 7)
 else
  (r12_members_c12 N A Cs Is Hs Es x.Name x.Inst x.Req x.Resp x.Insts x.Chans x.Cells x.At (fun (y88 : Int) =>
  k y88))) : Option R) = K0
 have l0 := (walks (memG Cs Is x.At) (Nf_memG Cs Is x.At) (fun _ => True) (fun c _ => k c) (l := x.Insts) (by omega) (fun n i => r12_members_l0 N A Cs Is Hs Es x.Name x.Inst x.Req x.Resp x.Insts x.Chans x.Cells x.At K0 (fun z => k z) n i) (fun n pre e rest h _ h1 h2 => ⟨?_, fun _ => trivial⟩) K0 (fun n h _ => ?_) trivial N (by omega)).1
 ·unfold r12_members
  rw [hK0]
  refine Eq.trans l0 ?_
  unfold memberF
  split
  ·rename_i hz
   have hm : ∀ n ∈ x.Insts, (chOf Cs Is n).isSome = true ∧ (flL ((chOf Cs Is n).getD c0).States).any isH = false := by
    intro n hn
    obtain ⟨p, hp⟩ := gP_fst _ _ _ hz n hn
    unfold memG at hp
    obtain ⟨a1, a2⟩ := orF_fst.1 hp
    have a3 := (orF_fst.1 a2).2
    rw [chk_fst (by decide)] at a1 a3
    exact ⟨a1, by simpa using a3⟩
   rw [Nf_gP (Nf_memG _ _ _) _ _ hz, zero_orF (Nf_orF (Nf_endG _ _ _) (Nf_orF (Nf_chk _ _ (by decide)) (Nf_gP (Nf_mchG _ _) _ _))), ← hK0, r12has_eq _ _ _ hN (by omega), any_comm]
   unfold endG
   rcases Bool.eq_false_or_eq_true (x.Insts.any fun n => x.Inst == n) with hin | hin
   rotate_left
   ·rw [hin]
    rw [Bool.not_false, Bool.false_and, Bool.false_and, chk_false, orF_ne (a := (7, x.At)) _ (by simp)]
    simp [ifB]
   ·obtain ⟨n, hn, he⟩ := List.any_eq_true.1 hin
    have : x.Inst = n := by simpa using he
    subst this
    obtain ⟨b1, b2⟩ := hm _ hn
    have hg := hgood x.Inst
    have hfl := good_flat hg b2
    rw [hin, rOf_eq _ _ _ _ _ _ _ hN hc hi b1, rOf_eq _ _ _ _ _ _ _ hN hc hi b1]
    dsimp only
    rw [rstate_eq _ _ _ hN hg.1 hfl, rstate_eq _ _ _ hN hg.1 hfl]
    simp only [ifB_or, Option.bind_some, Bool.not_true, Bool.false_or, Bool.true_and]
    rw [c12]
    rcases Bool.eq_false_or_eq_true (((flL ((chOf Cs Is x.Inst).getD c0).States).any fun e => e.Name == x.Req) && (flL ((chOf Cs Is x.Inst).getD c0).States).any fun e => e.Name == x.Resp) with hr | hr
    ·have h' := hr
     rw [Bool.and_eq_true] at h'
     rw [hr, h'.1, h'.2, chk_true, zero_orF (Nf_orF (Nf_chk _ _ (by decide)) (Nf_gP (Nf_mchG _ _) _ _))]; simp
    ·rw [hr, chk_false, orF_ne (a := (7, x.At)) _ (by simp)]
     have h' := hr
     rw [Bool.and_eq_false_iff] at h'
     have : (!((flL ((chOf Cs Is x.Inst).getD c0).States).any fun e => e.Name == x.Req) || !((flL ((chOf Cs Is x.Inst).getD c0).States).any fun e => e.Name == x.Resp)) = true := by
      rcases h' with h' | h' <;> simp [h']
     rw [this, if_pos rfl]
  ·rename_i hz
   rw [orF_ne _ hz]; rfl
 ·have hpl : pre.length ≤ x.Insts.length := by rw [h]; simp
  simp only [r12_members_l0, r12_members_l0_b, h1, h2, if_true, Option.bind_some]
  rw [r12Inst_eq _ _ _ _ _ _ _ hN hi, idx_any', if_pos (g01 hpl), take_pre h, r12has_eq _ _ _ hN (by omega), any_comm, ← chOf_isSome hall e]
  unfold memG
  rcases Bool.eq_false_or_eq_true (chOf Cs Is e).isSome with h7 | h7
  rotate_left
  ·rw [h7, Bool.not_false, if_pos rfl, chk_false, orF_ne (a := (7, x.At)) _ (by simp), if_neg (by simp)]; rfl
  rw [h7, Bool.not_true, if_neg (by simp), chk_true, zero_orF (Nf_orF (Nf_chk _ _ (by decide)) (Nf_chk _ _ (by decide)))]
  rcases Bool.eq_false_or_eq_true (pre.any fun n => e == n) with h8 | h8
  ·rw [h8, if_pos rfl, Bool.not_true, chk_false, orF_ne (a := (8, x.At)) _ (by simp), if_neg (by simp)]; rfl
  have hst := (hgood e).1
  have hs4 := hst.2.2.2.1
  rw [h8, if_neg (by simp), Bool.not_false, chk_true, zero_orF (Nf_chk _ _ (by decide)), rOf_eq _ _ _ _ _ _ _ hN hc hi h7]
  dsimp only
  rw [rhist_eq hN _ _ (by omega) hst.2.2.2.2]
  rcases Bool.eq_false_or_eq_true ((flL ((chOf Cs Is e).getD c0).States).any isH) with h17 | h17
  ·rw [h17, if_pos rfl, Bool.not_true, chk_false, if_neg (by simp)]; rfl
  ·rw [h17, if_neg (by simp), Bool.not_false, chk_true, if_pos rfl]
 ·simp only [r12_members_l0, r12_members_l0_b, h]
  simp
theorem rcerts_eq (A : Int) (Cs : List Chart) (Is : List Inst) (Hs : List Chan) (Es : List Cert) (k : Int → Int → Option R) (hN : big ≤ N) (hc : Cs.length < big) (hi : Is.length < big) (hh : Hs.length < big) (he : Es.length < big) (hcs : ∀ c ∈ Cs, GoodC c) (hes : ∀ x ∈ Es, CertOk x) (hall : AllCh Cs Is) :
  r12_certs N A Cs Is Hs Es k = kf k (gP (certG Cs Is Hs) [] Es) := by
 have hbig : big = 1000000000 := rfl
 have hB : B = 16386 := rfl
 unfold r12_certs
 have := (walks (certG Cs Is Hs) (Nf_certG Cs Is Hs) (fun _ => True) k he (fun n i => r12_certs_l0 N A Cs Is Hs Es 0 0 (k 0 0) (fun y z => k y z) n i) (fun n pre x rest h _ h1 h2 => ⟨?_, fun _ => trivial⟩) (k 0 0) (fun n h _ => ?_) trivial N (by omega)).1
 ·rw [kf_nf (Nf_gP (Nf_certG _ _ _) _ _)] at this
  exact this
 ·have hxok := hes x (by rw [h]; simp)
  have hlen : Es.length = pre.length + (rest.length + 1) := by rw [h]; simp
  simp only [r12_certs_l0, r12_certs_l0_b, h1, h2, if_true, Option.bind_some]
  generalize hrec : r12_certs_l0 N A Cs Is Hs Es 0 0 (k 0 0) (fun y z => k y z) n (IntKind.wrap .i64 (((pre.length : Nat) : Int) + 1)) = rec
  -- cells
  have l4 : (memberF Cs Is Hs x).1 = 0 → r12_certs_l4 N pre.length A Cs Is Hs Es 0 0 x.Name x.Inst x.Req x.Resp x.Insts x.Chans x.Cells x.At rec (fun (y49 : Int) (y50 : Int) => k y49 y50) N 0 = if (gP (cellG Cs Is Hs x) [] x.Cells).1 = 0 then rec else kf k (gP (cellG Cs Is Hs x) [] x.Cells) := by
   intro hz
   unfold memberF at hz
   obtain ⟨z1, z2⟩ := orF_fst.1 hz
   have z3 := (orF_fst.1 (orF_fst.1 z2).2).2
   have hm : ∀ n ∈ x.Insts, (chOf Cs Is n).isSome = true ∧ (flL ((chOf Cs Is n).getD c0).States).any isH = false := by
    intro n hn
    obtain ⟨p, hp⟩ := gP_fst _ _ _ z1 n hn
    unfold memG at hp
    obtain ⟨a1, a2⟩ := orF_fst.1 hp
    have a3 := (orF_fst.1 a2).2
    rw [chk_fst (by decide)] at a1 a3
    exact ⟨a1, by simpa using a3⟩
   have hch : ∀ n ∈ x.Chans, (Hs.any fun e => e.Name == n) = true := by
    intro n hn
    obtain ⟨p, hp⟩ := gP_fst _ _ _ z3 n hn
    unfold mchG at hp
    have a1 := (orF_fst.1 hp).1
    rwa [chk_fst (by decide)] at a1
   have hxl := hxok.2.2.1
   refine (walks (cellG Cs Is Hs x) (Nf_cellG Cs Is Hs x) (fun p => ∀ y ∈ p, fitsB Cs Is Hs x y = true) k (l := x.Cells) (by omega) (fun n i => r12_certs_l4 N pre.length A Cs Is Hs Es 0 0 x.Name x.Inst x.Req x.Resp x.Insts x.Chans x.Cells x.At rec (fun (y49 : Int) (y50 : Int) => k y49 y50) n i) (fun n p c r hh1 hinv q1 q2 => ⟨?_, fun hz y hy => ?_⟩) rec (fun n h _ => ?_) (fun y hy => by cases hy) N (by omega)).1
   ·simp only [r12_certs_l4, r12_certs_l4_b, q1, if_true, Option.bind_some]
    rw [rcell_eq x p r c A Cs Is Hs Es _ hN hc hi hh hcs hxok hh1 hm hch hinv, q2, Option.bind_some]
    have hat := cellG_at Cs Is Hs x p c
    generalize cellG Cs Is Hs x p c = f at *
    by_cases hf : f.1 = 0
    ·rw [hf, if_neg (by simp), if_pos rfl]
    ·rw [if_pos (by simpa using hf), if_neg hf, kf_eq, hat hf]
   ·rcases List.mem_append.1 hy with hy | hy
    ·exact hinv y hy
    ·rw [List.mem_singleton.1 hy]
     unfold cellG at hz
     have a1 := (orF_fst.1 (orF_fst.1 hz).2).1
     rwa [chk_fst (by decide)] at a1
   ·simp only [r12_certs_l4, r12_certs_l4_b, h]
    simp
  generalize hK : (r12_members N A Cs Is Hs Es x.Name x.Inst x.Req x.Resp x.Insts x.Chans x.Cells x.At (fun (r29 : Int) =>
 if (r29 != 0) = true then
  (k r29 x.At)
 else
  (r12_certs_l4 N pre.length A Cs Is Hs Es 0 0 x.Name x.Inst x.Req x.Resp x.Insts x.Chans x.Cells x.At rec
  (fun (y49 : Int) (y50 : Int) =>
 k y49 y50) N 0)) : Option R) = rst
  have hs := search (l := pre) (fun e => e.Name == x.Name) (fun j => if j < 0 then rst else k 8 x.At) (by omega) (fun n i => r12_certs_l2 N pre.length A Cs Is Hs Es 0 0 x.Name x.Inst x.Req x.Resp x.Insts x.Chans x.Cells x.At rst (fun y => k y x.At) n i) (fun n i e g0 g1 g2 g3 g4 => ?_) (fun n i hd => ?_) N (by omega)
  ·refine Eq.trans hs ?_
   have hany := idx_any' (fun e : Cert => e.Name == x.Name) pre
   unfold certG
   by_cases hz : idx (fun e : Cert => e.Name == x.Name) pre < 0
   ·have ha : (pre.any fun e => e.Name == x.Name) = false := by
     rw [decide_eq_true hz] at hany
     simpa using hany.symm
    rw [if_pos hz, ha, Bool.not_false, chk_true, zero_orF (Nf_certF _ _ _ _), ← hK, rmembers_eq x A Cs Is Hs Es _ hN hc hi hh hcs hxok hall, certF_eq]
    have hat := memberF_at Cs Is Hs x
    have hnf := Nf_memberF Cs Is Hs x
    generalize memberF Cs Is Hs x = f at *
    by_cases hf : f.1 = 0
    ·rw [hf, if_neg (by simp), l4 hf, hnf hf, zero_orF (Nf_gP (Nf_cellG _ _ _ _) _ _)]
    ·rw [if_pos (by simpa using hf), orF_ne _ hf, if_neg hf, kf_eq, hat hf]
   ·have ha : (pre.any fun e => e.Name == x.Name) = true := by
     rw [decide_eq_false hz] at hany
     simpa using hany.symm
    rw [if_neg hz, ha, Bool.not_true, chk_false, orF_ne (a := (8, x.At)) _ (by simp), if_neg (by simp)]; rfl
  ·have hi : Es[i.toNat]? = some e := by rw [h, List.getElem?_append_left (by omega)]; exact g4
   simp only [r12_certs_l2, r12_certs_l2_b, g2, at_some g0 hi, if_true, Option.bind_some]
   by_cases hn : (e.Name == x.Name) = true
   ·rw [if_pos hn, if_pos hn, if_neg (by omega)]
   ·rw [if_neg hn, if_neg hn]
  ·simp only [r12_certs_l2, r12_certs_l2_b, hd]
   simp
 ·simp only [r12_certs_l0, r12_certs_l0_b, h]
  simp
theorem rcheck_eq (s : System) (k : Int → Int → Option R) (hN : big ≤ N) (hs : SysOk s) : r12_Check N s.Age s.Charts s.Insts s.Chans s.Certs k = kf k (sysF s) := by
 have hbig : big = 1000000000 := rfl
 have hB : B = 16386 := rfl
 obtain ⟨A, Cs, Is, Hs, Es⟩ := s
 obtain ⟨b1, b2, b3, b4, b5, b6⟩ := hs
 dsimp only at b1 b2 b3 b4 b5 b6 ⊢
 unfold r12_Check sysF
 simp only [ifB_or, Option.bind_some]
 have nc := Nf_gP Nf_chartG Cs []
 have ni := Nf_gP (Nf_instG Cs) Is []
 have nh := Nf_gP (Nf_chanG Cs Is) Hs []
 have nj := Nf_gP (fun _ x => Nf_joinG Cs Is Hs x) Is []
 have ne := Nf_gP (Nf_certG Cs Is Hs) Es []
 have hcnd : (decide (A < 1) || decide (A > 65536)) = !(decide (A ≥ 1) && decide (A ≤ 65536)) := by
  rw [Bool.eq_iff_iff]
  simp only [Bool.or_eq_true, decide_eq_true_eq, Bool.not_eq_true', Bool.and_eq_false_iff, decide_eq_false_iff_not]
  omega
 rw [hcnd]
 rcases Bool.eq_false_or_eq_true (decide (A ≥ 1) && decide (A ≤ 65536)) with h16 | h16
 rotate_left
 ·rw [h16, Bool.not_false, if_pos rfl, chk_false, orF_ne (a := (16, 0)) _ (by simp)]; rfl
 rw [h16, Bool.not_true, if_neg (by simp), chk_true, zero_orF (Nf_orF (Nf_chk _ _ (by decide)) (Nf_orF nc (Nf_orF ni (Nf_orF nh (Nf_orF nj ne)))))]
 by_cases h7 : Is.length = 0
 ·rw [if_pos (by simp [h7]), decide_eq_false (by omega), chk_false, orF_ne (a := (7, 0)) _ (by simp)]; rfl
 rw [if_neg (by simpa using h7), decide_eq_true (by omega), chk_true, zero_orF (Nf_orF nc (Nf_orF ni (Nf_orF nh (Nf_orF nj ne))))]
 generalize hK : (r12_insts N A Cs Is Hs Es (fun (r14 : Int) (r15 : Int) =>
 if (r14 == 0) = true then
  (r12_chans N A Cs Is Hs Es (fun (r16 : Int) (r17 : Int) =>
  r12_Check_c14 N A Cs Is Hs Es 0 0 r16 r17 (fun (y29 : Int) (y30 : Int) =>
  k y29 y30)))
 else
  (r12_Check_c14 N A Cs Is Hs Es 0 0 r14 r15 (fun (y31 : Int) (y32 : Int) =>
  k y31 y32))) : Option R) = K0
 have l0 := (walks chartG Nf_chartG (fun _ => True) k (l := Cs) (by omega) (fun n i => r12_Check_l0 N A Cs Is Hs Es 0 0 K0 (fun y z => k y z) n i) (fun n pre x rest h _ h1 h2 => ⟨?_, fun _ => trivial⟩) K0 (fun n h _ => ?_) trivial N (by omega)).1
 ·refine Eq.trans l0 ?_
  split
  ·rename_i hz
   have hgood := gP_good hz b5
   rw [nc hz, zero_orF (Nf_orF ni (Nf_orF nh (Nf_orF nj ne))), ← hK, rinsts_eq _ _ _ _ _ _ hN (by omega) (by omega), kf_eq]
   by_cases hi0 : (gP (instG Cs) [] Is).1 = 0
   ·have hall := allCh hi0
    rw [if_pos (by simp [hi0]), ni hi0, zero_orF (Nf_orF nh (Nf_orF nj ne)), rchans_eq _ _ _ _ _ _ hN (by omega) (by omega) (by omega) (fun c hc => (b5 c hc).to) hall, kf_eq, ← orF_assoc]
    have nhj := Nf_orF nh nj
    generalize orF (gP (chanG Cs Is) [] Hs) (gP (fun _ x => joinG Cs Is Hs x) [] Is) = f at *
    unfold r12_Check_c14
    by_cases hf : f.1 = 0
    ·rw [if_pos (by simp [hf]), nhj hf, zero_orF ne, rcerts_eq _ _ _ _ _ _ hN (by omega) (by omega) (by omega) (by omega) hgood b6 hall]
    ·rw [if_neg (by simp [hf]), orF_ne _ hf]; rfl
   ·rw [if_neg (by simp [hi0]), orF_ne _ hi0]
    unfold r12_Check_c14
    rw [if_neg (by simp [hi0])]; rfl
  ·rename_i hz
   rw [orF_ne _ hz]
 ·simp only [r12_Check_l0, r12_Check_l0_b, h1, if_true, Option.bind_some]
  rw [rchart_eq pre x rest Cs _ hN (by omega) (b5 x (by rw [h]; simp)) h, kf_eq]
  generalize chartG pre x = f at *
  by_cases hf : f.1 = 0
  ·rw [hf, if_neg (by simp), if_pos rfl]
  ·rw [if_pos (by simpa using hf), if_neg hf]; rfl
 ·simp only [r12_Check_l0, r12_Check_l0_b, h]
  simp
end
end So
