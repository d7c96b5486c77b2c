/- TE: regions, in the order of the text or in whatever order. -/
import Derived.Test.YtkhkbikglgpkoaaGreatTE16
namespace TE
open Go
variable {S : Sig} {E : Env S}

/-! ### in the order of the text -/
theorem wanted_model {ops : Array Oper} {nt : Nat} {B : Base} {t : Nat → TV S} {ob : Nat → Option (Obj S)} {a : Act} {w : World} {φ : Phi} {M : Mem} {o : Oper} {b : Bool} (h : Rel E B nt t ob a w φ M) (hw : wantedT ops t o = some b) :
    Region.wanted o (yielded ops a.tmps) = b := by
  unfold wantedT at hw
  unfold Region.wanted
  split at hw
  · rename_i hg; cases hw; rw [hg]
  · rename_i j w' hg
    rw [hg]
    simp only
    unfold yielded
    split at hw
    · rename_i hd
      rw [hd]
      simp only [Option.bind_none]
      cases hw; rfl
    · rename_i d hd
      rw [hd]
      simp only [Option.bind_some]
      have hv := h.slots d
      split at hw
      · rename_i q hq
        cases hw
        rw [hq] at hv
        have e := hv.bool
        have : a.tmps[d]? = some (.bool q) := by
          rw [Array.getD_eq_getD_getElem?] at e
          cases hh : a.tmps[d]? with
          | none => rw [hh] at e; cases e
          | some v => rw [hh] at e; simp only [Option.getD_some] at e; rw [e]
        rw [this]
        simp
      · rename_i hq
        cases hw
        rw [hq] at hv
        have e := hv.undef
        rw [Array.getD_eq_getD_getElem?] at e
        cases hh : a.tmps[d]? with
        | none => rfl
        | some v => rw [hh] at e; simp only [Option.getD_some] at e; rw [e]; rfl
      · cases hw

theorem OpOK.fresh {o : Oper} {t : Nat → TV S} {ob : Nat → Option (Obj S)} {b : Nat} {e : Eff S} (h : OpOK E o t ob b e) (h0 : ∀ n, b ≤ n → ob n = none) : ∀ n, e.nx ≤ n → setAll ob e.wr n = none := by
  intro n hn
  rw [setAll_not, h0 n (Nat.le_trans h.nx hn)]
  intro hc
  simp only [List.mem_map] at hc
  obtain ⟨p, hp, rfl⟩ := hc
  rcases h.wr p hp with h1 | ⟨_, h1⟩
  · omega
  · exact h1 (h0 _ (Nat.le_trans h.nx hn))

theorem Rel.skip {B : Base} {nt : Nat} {t : Nat → TV S} {ob : Nat → Option (Obj S)} {a : Act} {w : World} {φ : Phi} {M : Mem} (h : Rel E B nt t ob a w φ M) {dst : Option Tmp} (hd : dstOk nt dst = true) : Rel E B nt (putDst t dst .undef) ob (a.put dst Go.undef) w φ M :=
  h.put hd (Phi.le_refl _) (Mem.le_refl _) (.pure .undef) h.mem

theorem seq_sound {ops : Array Oper} {nt : Nat} {B : Base} {Q : Exit → Act → World → Prop} {c c' : Nat → TV S} {ob ob' : Nat → Option (Obj S)} {b b' : Nat} {l : List Oper} {es : List (Eff S)} (htr : Trace E ops nt c ob b l es c' ob' b') :
    ∀ (k : Nat) (a : Act) (w : World) (φ : Phi) (M : Mem), (∀ i, l[i]? = ops[k + i]?) → B.m ≤ b → (∀ n, b ≤ n → ob n = none) → Rel E B nt c ob a w φ M →
      (∀ a' w' φ' M', Rel E B nt c' ob' a' w' φ' M' → b ≤ b' → (∀ n, b' ≤ n → ob' n = none) → Q .normal a' w') → wpOps E.P ops Q (List.range' k l.length) a w := by
  induction htr with
  | nil => intro k a w φ M _ _ h0 hrel hQ; exact hQ _ _ _ _ hrel (Nat.le_refl _) h0
  | @run c c' t ob ob' b b' o l e es hd hw ht he h ih =>
    intro k a w φ M hl hB h0 hrel hQ
    have ho : ops[k]? = some o := by have := hl 0; simpa using this.symm
    simp only [List.length_cons, List.range'_succ, wpOps, ho]
    rw [wanted_model hrel hw]
    simp only [if_true]
    left
    unfold Oper.wp
    refine Oper.wp_mono (o := o) (a := a) (w := w) (K := fun a' w' => ∃ φ' M', Rel E B nt (putDst c o.dst e.v) (setAll ob e.wr) a' w' φ' M') ?_ ?_
    · rintro a' w' ⟨φ', M', hrel'⟩
      refine ih (k + 1) a' w' φ' M' (fun i => by have := hl (i + 1); simpa [Nat.add_assoc, Nat.add_comm 1] using this) (Nat.le_trans hB he.nx) (he.fresh h0) hrel' fun a'' w'' φ'' M'' h1 h2 h3 => hQ _ _ _ _ h1 (Nat.le_trans he.nx h2) h3
    · exact he.run B nt c ob a w φ M Q hd (fun x _ => by
        have := hrel.ev x
        cases x with
        | tmp i =>
          rcases ht i with e | e
          · show VR E φ M (t i) _; rw [e]; exact this
          · show VR E φ M (t i) _; rw [e]; exact .dead _
        | const v => exact this
        | func f => exact this
        | global g => exact this) (fun _ _ => rfl) (fun n h1 _ => h0 n h1) hB hrel
  | @skip c c' ob ob' b b' o l es hd hw h ih =>
    intro k a w φ M hl hB h0 hrel hQ
    have ho : ops[k]? = some o := by have := hl 0; simpa using this.symm
    simp only [List.length_cons, List.range'_succ, wpOps, ho]
    rw [wanted_model hrel hw]
    simp only [Bool.false_eq_true, if_false]
    exact ih (k + 1) _ w φ M (fun i => by have := hl (i + 1); simpa [Nat.add_assoc, Nat.add_comm 1] using this) hB h0 (hrel.skip hd) hQ

/-! ### in whatever order -/
def selPut (c : Nat → TV S) : List (Oper × Eff S) → Nat → (Nat → Bool) → Nat → TV S
  | [], _, _ => c
  | (o, e) :: r, k, D => selPut (if D k then putDst c o.dst e.v else c) r (k + 1) D
def selObj (ob : Nat → Option (Obj S)) : List (Oper × Eff S) → Nat → (Nat → Bool) → Nat → Option (Obj S)
  | [], _, _ => ob
  | (_, e) :: r, k, D => selObj (if D k then setAll ob e.wr else ob) r (k + 1) D

theorem selPut_congr {x : Nat} : ∀ (l : List (Oper × Eff S)) (c1 c2 : Nat → TV S) (k : Nat) (D1 D2 : Nat → Bool), c1 x = c2 x → (∀ (i : Nat) (p : Oper × Eff S), l[i]? = some p → D1 (k + i) ≠ D2 (k + i) → p.1.dst ≠ some x) → selPut c1 l k D1 x = selPut c2 l k D2 x
  | [], c1, c2, k, D1, D2, h, _ => h
  | (o, e) :: r, c1, c2, k, D1, D2, h, hd => by
    simp only [selPut]
    refine selPut_congr r _ _ (k + 1) D1 D2 ?_ (fun i p hp hne => hd (i + 1) p (by simpa using hp) (by rw [show k + (i + 1) = k + 1 + i by omega]; exact hne))
    have h0 := hd 0 (o, e) (by simp)
    simp only [Nat.add_zero] at h0
    have put : ∀ c : Nat → TV S, o.dst ≠ some x → putDst c o.dst e.v x = c x := fun c hx => putDst_other hx
    cases h1 : D1 k <;> cases h2 : D2 k
    · simpa using h
    · simp only [Bool.false_eq_true, if_false, if_true]; rw [put _ (h0 (by rw [h1, h2]; simp))]; exact h
    · simp only [Bool.false_eq_true, if_false, if_true]; rw [put _ (h0 (by rw [h1, h2]; simp))]; exact h
    · simp only [if_true]
      cases ho : o.dst with
      | none => exact h
      | some d =>
        by_cases e' : x = d
        · subst e'; rw [putDst_self, putDst_self]
        · have hne : (some d : Option Tmp) ≠ some x := by intro e2; exact e' (by cases e2; rfl)
          rw [putDst_other hne, putDst_other hne]; exact h
theorem selObj_congr {n : Nat} : ∀ (l : List (Oper × Eff S)) (c1 c2 : Nat → Option (Obj S)) (k : Nat) (D1 D2 : Nat → Bool), c1 n = c2 n → (∀ (i : Nat) (p : Oper × Eff S), l[i]? = some p → D1 (k + i) ≠ D2 (k + i) → n ∉ p.2.wr.map (·.1)) → selObj c1 l k D1 n = selObj c2 l k D2 n
  | [], c1, c2, k, D1, D2, h, _ => h
  | (o, e) :: r, c1, c2, k, D1, D2, h, hd => by
    simp only [selObj]
    refine selObj_congr r _ _ (k + 1) D1 D2 ?_ (fun i p hp hne => hd (i + 1) p (by simpa using hp) (by rw [show k + (i + 1) = k + 1 + i by omega]; exact hne))
    have h0 := hd 0 (o, e) (by simp)
    simp only [Nat.add_zero] at h0
    cases h1 : D1 k <;> cases h2 : D2 k
    · simpa using h
    · simp only [Bool.false_eq_true, if_false, if_true]; rw [setAll_not _ _ (h0 (by rw [h1, h2]; simp))]; exact h
    · simp only [Bool.false_eq_true, if_false, if_true]; rw [setAll_not _ _ (h0 (by rw [h1, h2]; simp))]; exact h
    · simp only [if_true]; exact setAll_congr _ h

theorem selPut_push {x : Nat} {d : Option Tmp} {v : TV S} : ∀ (l : List (Oper × Eff S)) (c : Nat → TV S) (k : Nat) (D : Nat → Bool), (∀ (i : Nat) (p : Oper × Eff S), l[i]? = some p → D (k + i) = true → d = some x → p.1.dst ≠ some x) →
    selPut (putDst c d v) l k D x = putDst (selPut c l k D) d v x := by
  intro l c k D h
  by_cases hx : d = some x
  · subst hx
    rw [putDst_self]
    rw [selPut_congr l (putDst c (some x) v) (putDst c (some x) v) k D (fun _ => false) rfl (fun i p hp hne => h i p hp (by cases hD : D (k + i) <;> simp_all) rfl)]
    have : ∀ (l : List (Oper × Eff S)) (c : Nat → TV S) (k : Nat), selPut c l k (fun _ => false) = c := by
      intro l
      induction l with
      | nil => intro c k; rfl
      | cons p r ih => intro c k; exact ih c (k + 1)
    rw [this, putDst_self]
  · rw [putDst_other hx]
    exact selPut_congr l _ _ k D D (putDst_other hx) (fun i p hp hne => absurd rfl hne)
theorem selPut_insert {x : Nat} : ∀ (l : List (Oper × Eff S)) (c : Nat → TV S) (k i : Nat) (D : Nat → Bool) (p : Oper × Eff S), l[i]? = some p → D (k + i) = false → (∀ (j : Nat) (q : Oper × Eff S), l[j]? = some q → i < j → D (k + j) = true → p.1.dst = some x → q.1.dst ≠ some x) →
    selPut c l k (fun n => D n || decide (n = k + i)) x = putDst (selPut c l k D) p.1.dst p.2.v x
  | [], _, _, i, _, _, h, _, _ => by simp at h
  | (o, e) :: r, c, k, 0, D, p, h, hD, hq => by
    simp at h; subst h
    simp only [Nat.add_zero] at hD
    simp only [selPut, Nat.add_zero, decide_true, Bool.or_true, if_true, hD, Bool.false_eq_true, if_false]
    rw [selPut_congr r _ (putDst c o.dst e.v) (k + 1) _ D rfl (fun i p hp hne => absurd (by simp; omega) hne)]
    exact selPut_push r c (k + 1) D (fun i p hp hD' hx => hq (i + 1) p (by simpa using hp) (by omega) (by rw [show k + (i + 1) = k + 1 + i by omega]; exact hD') hx)
  | (o, e) :: r, c, k, i + 1, D, p, h, hD, hq => by
    simp only [selPut]
    have : (D k || decide (k = k + (i + 1))) = D k := by simp
    simp only [this]
    have := selPut_insert (x := x) r (if D k then putDst c o.dst e.v else c) (k + 1) i D p (by simpa using h) (by rw [show k + 1 + i = k + (i + 1) by omega]; exact hD) (fun j q hj hij hDj hx => hq (j + 1) q (by simpa using hj) (by omega) (by rw [show k + (j + 1) = k + 1 + j by omega]; exact hDj) hx)
    rw [show k + (i + 1) = k + 1 + i by omega]; exact this
theorem selObj_insert {n : Nat} : ∀ (l : List (Oper × Eff S)) (c : Nat → Option (Obj S)) (k i : Nat) (D : Nat → Bool) (p : Oper × Eff S), l[i]? = some p → D (k + i) = false → (∀ (j : Nat) (q : Oper × Eff S), l[j]? = some q → i < j → D (k + j) = true → n ∈ p.2.wr.map (·.1) → n ∉ q.2.wr.map (·.1)) →
    selObj c l k (fun m => D m || decide (m = k + i)) n = setAll (selObj c l k D) p.2.wr n
  | [], _, _, i, _, _, h, _, _ => by simp at h
  | (o, e) :: r, c, k, 0, D, p, h, hD, hq => by
    simp at h; subst h
    simp only [Nat.add_zero] at hD
    simp only [selObj, Nat.add_zero, decide_true, Bool.or_true, if_true, hD, Bool.false_eq_true, if_false]
    rw [selObj_congr r _ (setAll c e.wr) (k + 1) _ D rfl (fun i p hp hne => absurd (by simp; omega) hne)]
    by_cases hn : n ∈ e.wr.map (·.1)
    · -- nobody behind it writes there
      have none' : ∀ (c : Nat → Option (Obj S)), selObj c r (k + 1) D n = c n := by
        intro c
        rw [selObj_congr r c c (k + 1) D (fun _ => false) rfl (fun i p hp hne => hq (i + 1) p (by simpa using hp) (by omega) (by rw [show k + (i + 1) = k + 1 + i by omega]; cases hD : D (k + 1 + i) <;> simp_all) hn)]
        have : ∀ (l : List (Oper × Eff S)) (c : Nat → Option (Obj S)) (k : Nat), selObj c l k (fun _ => false) = c := by
          intro l
          induction l with
          | nil => intro c k; rfl
          | cons p r ih => intro c k; exact ih c (k + 1)
        rw [this]
      rw [none']
      obtain ⟨x, h1, h2⟩ := setAll_mem e.wr c hn
      obtain ⟨y, h3, h4⟩ := setAll_mem e.wr (selObj c r (k + 1) D) hn
      rw [h2, h4]
      -- the same list gives the same
      have key : ∀ (l : List (Nat × Obj S)) (f g : Nat → Option (Obj S)), n ∈ l.map (·.1) → setAll f l n = setAll g l n := by
        intro l
        induction l with
        | nil => intro f g h; simp at h
        | cons q l ih =>
          intro f g h
          obtain ⟨m, z⟩ := q
          show setAll (setF f m (some z)) l n = setAll (setF g m (some z)) l n
          by_cases hl : n ∈ l.map (·.1)
          · exact ih _ _ hl
          · rw [setAll_not _ _ hl, setAll_not _ _ hl]
            simp only [List.map_cons, List.mem_cons] at h
            have := h.resolve_right hl
            subst this
            rw [setF_self, setF_self]
      have := key e.wr c (selObj c r (k + 1) D) hn
      rw [h2, h4] at this; exact this
    · rw [setAll_not _ _ hn]
      exact selObj_congr r _ _ (k + 1) D D (setAll_not _ _ hn) (fun i p hp hne => absurd rfl hne)
  | (o, e) :: r, c, k, i + 1, D, p, h, hD, hq => by
    simp only [selObj]
    have : (D k || decide (k = k + (i + 1))) = D k := by simp
    simp only [this]
    have := selObj_insert (n := n) r (if D k then setAll c e.wr else c) (k + 1) i D p (by simpa using h) (by rw [show k + 1 + i = k + (i + 1) by omega]; exact hD) (fun j q hj hij hDj hx => hq (j + 1) q (by simpa using hj) (by omega) (by rw [show k + (j + 1) = k + 1 + j by omega]; exact hDj) hx)
    rw [show k + (i + 1) = k + 1 + i by omega]; exact this

/-- What a trace says of operation number i. -/
theorem trace_at {ops : Array Oper} {nt : Nat} {c c' : Nat → TV S} {ob ob' : Nat → Option (Obj S)} {b b' : Nat} {l : List Oper} {es : List (Eff S)} (htr : Trace E ops nt c ob b l es c' ob' b') : ∀ (k : Nat) (h0 : ∀ n, b ≤ n → ob n = none),
    (c' = selPut c (l.zip es) k (fun _ => true) ∧ ob' = selObj ob (l.zip es) k (fun _ => true) ∧ b ≤ b' ∧ (∀ n, b' ≤ n → ob' n = none)) ∧
    ∀ (i : Nat) (o : Oper) (e : Eff S), l[i]? = some o → es[i]? = some e → dstOk nt o.dst = true ∧ ∃ bi, b ≤ bi ∧ bi ≤ e.nx ∧ (∀ (j : Nat) (e' : Eff S), es[j]? = some e' → j < i → ∀ p ∈ e'.wr, p.1 < bi) ∧
      ((wantedT ops (selPut c (l.zip es) k (fun m => decide (m < k + i))) o = some true ∧ ∃ t : Nat → TV S, (∀ x, t x = selPut c (l.zip es) k (fun m => decide (m < k + i)) x ∨ t x = .dead) ∧ OpOK E o t (selObj ob (l.zip es) k (fun m => decide (m < k + i))) bi e) ∨
       (wantedT ops (selPut c (l.zip es) k (fun m => decide (m < k + i))) o = some false ∧ e = ⟨.undef, [], [], bi⟩)) := by
  have nosel : ∀ (l : List (Oper × Eff S)) (c : Nat → TV S) (k m : Nat), m ≤ k → selPut c l k (fun n => decide (n < m)) = c := by
    intro l
    induction l with
    | nil => intro c k m _; rfl
    | cons p r ih =>
      intro c k m hm
      simp only [selPut]
      rw [if_neg (by simp; omega)]
      exact ih c (k + 1) m (by omega)
  have noselO : ∀ (l : List (Oper × Eff S)) (c : Nat → Option (Obj S)) (k m : Nat), m ≤ k → selObj c l k (fun n => decide (n < m)) = c := by
    intro l
    induction l with
    | nil => intro c k m _; rfl
    | cons p r ih =>
      intro c k m hm
      simp only [selObj]
      rw [if_neg (by simp; omega)]
      exact ih c (k + 1) m (by omega)
  induction htr with
  | nil c ob b => intro k h0; exact ⟨⟨rfl, rfl, Nat.le_refl _, h0⟩, fun i o e h => by simp at h⟩
  | @run c c' t ob ob' b b' o l e es hd hw ht he h ih =>
    intro k h0
    obtain ⟨⟨h1, h2, h3, h4⟩, h5⟩ := ih (k + 1) (he.fresh h0)
    refine ⟨⟨h1, h2, Nat.le_trans he.nx h3, h4⟩, fun i o' e' hi hj => ?_⟩
    cases i with
    | zero =>
      simp at hi hj; subst hi; subst hj
      refine ⟨hd, b, Nat.le_refl _, he.nx, fun j e' _ hlt => absurd hlt (by omega), .inl ?_⟩
      simp only [List.zip_cons_cons, Nat.add_zero, selPut, selObj, Nat.lt_irrefl, decide_false, Bool.false_eq_true, if_false]
      rw [nosel _ _ _ _ (by omega), noselO _ _ _ _ (by omega)]
      exact ⟨hw, t, ht, he⟩
    | succ i =>
      obtain ⟨hd', bi, q1, q2, q3, q4⟩ := h5 i o' e' (by simpa using hi) (by simpa using hj)
      refine ⟨hd', bi, Nat.le_trans he.nx q1, q2, fun j e'' hj' hlt p hp => ?_, ?_⟩
      · cases j with
        | zero =>
          simp at hj'; subst hj'
          rcases he.wr p hp with h6 | ⟨_, h6⟩
          · omega
          · rcases Nat.lt_or_ge p.1 b with h7 | h7
            · have := he.nx; omega
            · exact absurd (h0 _ h7) h6
        | succ j => exact q3 j e'' (by simpa using hj') (by omega) p hp
      · simp only [List.zip_cons_cons, selPut, selObj]
        rw [if_pos (by simp), if_pos (by simp)]
        rw [show k + (i + 1) = k + 1 + i by omega]; exact q4
  | @skip c c' ob ob' b b' o l es hd hw h ih =>
    intro k h0
    obtain ⟨⟨h1, h2, h3, h4⟩, h5⟩ := ih (k + 1) h0
    refine ⟨⟨h1, h2, h3, h4⟩, fun i o' e' hi hj => ?_⟩
    cases i with
    | zero =>
      simp at hi hj; subst hi; subst hj
      refine ⟨hd, b, Nat.le_refl _, Nat.le_refl _, fun j e' _ hlt => absurd hlt (by omega), .inr ?_⟩
      simp only [List.zip_cons_cons, Nat.add_zero, selPut, Nat.lt_irrefl, decide_false, Bool.false_eq_true, if_false]
      rw [nosel _ _ _ _ (by omega)]
      exact ⟨hw, trivial⟩
    | succ i =>
      obtain ⟨hd', bi, q1, q2, q3, q4⟩ := h5 i o' e' (by simpa using hi) (by simpa using hj)
      refine ⟨hd', bi, q1, q2, fun j e'' hj' hlt p hp => ?_, ?_⟩
      · cases j with
        | zero => simp at hj'; subst hj'; simp at hp
        | succ j => exact q3 j e'' (by simpa using hj') (by omega) p hp
      · simp only [List.zip_cons_cons, selPut, selObj]
        rw [if_pos (by simp), if_pos (by simp)]
        rw [show k + (i + 1) = k + 1 + i by omega]; exact q4

/-! the bits -/
theorem befores_spec : ∀ (l : List Oper) (acc : List Nat), ∃ r, befores l acc = acc ++ r ∧ r.length = l.length ∧ ∀ (i : Nat) (o : Oper), l[i]? = some o → r[i]? = some (bitsOf (acc ++ r.take i) o)
  | [], acc => ⟨[], by simp [befores], rfl, fun i o h => by simp at h⟩
  | o :: l, acc => by
    obtain ⟨r, h1, h2, h3⟩ := befores_spec l (acc ++ [bitsOf acc o])
    refine ⟨bitsOf acc o :: r, by simp only [befores]; rw [h1]; simp, by simp [h2], fun i o' hi => ?_⟩
    cases i with
    | zero => simp at hi; subst hi; simp
    | succ i =>
      have := h3 i o' (by simpa using hi)
      simpa using this
theorem bits_fold (acc : List Nat) (k : Nat) : ∀ (l : List Edge) (s : Nat), (l.foldl (fun s e => if Region.binds .any e then s ||| 2 ^ e.on ||| acc.getD e.on 0 else s) s).testBit k = true →
    s.testBit k = true ∨ ∃ e ∈ l, Region.binds .any e = true ∧ (k = e.on ∨ (acc.getD e.on 0).testBit k = true)
  | [], s, h => .inl h
  | e :: l, s, h => by
    simp only [List.foldl_cons] at h
    rcases bits_fold acc k l _ h with h1 | ⟨e', h1, h2⟩
    · split at h1
      · rename_i hb
        rw [Nat.testBit_or, Nat.testBit_or] at h1
        simp only [Bool.or_eq_true] at h1
        rcases h1 with (h1 | h1) | h1
        · exact .inl h1
        · right
          refine ⟨e, by simp, hb, .inl ?_⟩
          rw [Nat.testBit_two_pow] at h1
          exact (by simpa using h1 : e.on = k).symm
        · exact .inr ⟨e, by simp, hb, .inr h1⟩
      · exact .inl h1
    · exact .inr ⟨e', by simp [h1], h2⟩
theorem bitsOf_spec {acc : List Nat} {o : Oper} {k : Nat} (h : (bitsOf acc o).testBit k = true) : ∃ e ∈ o.after, Region.binds .any e = true ∧ (k = e.on ∨ (acc.getD e.on 0).testBit k = true) := by
  rcases bits_fold acc k o.after.toList 0 h with h1 | ⟨e, h1, h2⟩
  · simp at h1
  · exact ⟨e, by simpa using h1, h2⟩

theorem edges_spec {ops : Array Oper} (h : edgesOk ops = true) {i : Nat} {o : Oper} (ho : ops[i]? = some o) {e : Edge} (he : e ∈ o.after) (hb : Region.binds .any e = true) : e.on < i := by
  unfold edgesOk at h
  rw [List.all_eq_true] at h
  have hm : (o, i) ∈ ops.toList.zipIdx := by
    rw [List.mem_iff_getElem?]
    exact ⟨i, by rw [List.getElem?_zipIdx, Array.getElem?_toList, ho]; simp⟩
  have h1 := h _ hm
  rw [List.all_eq_true] at h1
  have h2 := h1 e (by simpa using he)
  simpa [hb] using h2

/-- A set that holds with each operation those that it waits for holds all that it waits for in the end. -/
theorem bits_closed {ops : Array Oper} (hedge : edgesOk ops = true) {D : Nat → Bool} (hcl : ∀ i o, ops[i]? = some o → D i = true → ∀ e ∈ o.after, Region.binds .any e = true → D e.on = true) :
    ∀ (i : Nat) (o : Oper) (s : Nat), ops[i]? = some o → (befores ops.toList [])[i]? = some s → (∀ e ∈ o.after, Region.binds .any e = true → D e.on = true) → ∀ k, s.testBit k = true → D k = true := by
  obtain ⟨r, h1, h2, h3⟩ := befores_spec ops.toList []
  simp only [List.nil_append] at h1 h3
  intro i
  induction i using Nat.strongRecOn with
  | _ i ih =>
    intro o s ho hs hall k hk
    rw [h1, h3 i o (by simpa using ho)] at hs
    cases hs
    obtain ⟨e, he, hb, h4⟩ := bitsOf_spec hk
    have hlt := edges_spec hedge ho he hb
    have hD := hall e he hb
    rcases h4 with rfl | h4
    · exact hD
    · have hol : e.on < ops.size := by have := (Array.getElem?_eq_some_iff.1 ho).1; omega
      have hoe : ops[e.on]? = some ops[e.on] := Array.getElem?_eq_getElem hol
      have hoe2 : ops.toList[e.on]? = some ops[e.on] := by rw [Array.getElem?_toList]; exact hoe
      have hse : (befores ops.toList [])[e.on]? = some ((r.take i).getD e.on 0) := by
        have hr : r[e.on]? = some (bitsOf (r.take e.on) ops[e.on]) := h3 e.on _ hoe2
        rw [h1, List.getD_eq_getElem?_getD, List.getElem?_take_of_lt hlt, hr]; rfl
      exact ih e.on hlt _ _ hoe hse (hcl e.on _ hoe hD) k h4

theorem pairs_spec {α : Type} {f : α → α → Bool} {bits : List Nat} {xs : List α} (h : pairsOk f bits xs = true) {i j : Nat} {s : Nat} {x y : α} (hij : j < i) (hx : xs[j]? = some x) (hy : xs[i]? = some y) (hs : bits[i]? = some s) (hb : ∃ q, bits[j]? = some q) :
    s.testBit j = true ∨ f x y = true := by
  unfold pairsOk at h
  simp only at h
  rw [List.all_eq_true] at h
  have hz : (bits.zip xs)[i]? = some (s, y) := by rw [List.getElem?_zip_eq_some]; exact ⟨hs, hy⟩
  obtain ⟨q, hq⟩ := hb
  have hzj : (bits.zip xs)[j]? = some (q, x) := by rw [List.getElem?_zip_eq_some]; exact ⟨hq, hx⟩
  have h1 := h ((s, y), i) (by rw [List.mem_iff_getElem?]; exact ⟨i, by rw [List.getElem?_zipIdx, hz]; simp⟩)
  rw [List.all_eq_true] at h1
  have h2 := h1 ((q, x), j) (by rw [List.mem_iff_getElem?]; exact ⟨j, by rw [List.getElem?_zipIdx, List.getElem?_take_of_lt hij, hzj]; simp⟩)
  simpa using h2
theorem pairs_all {α : Type} {f : α → α → Bool} {bits : List Nat} {xs : List α} (h : ∀ x ∈ xs, ∀ y ∈ xs, f x y = true) : pairsOk f bits xs = true := by
  unfold pairsOk
  simp only
  rw [List.all_eq_true]
  intro p hp
  rw [List.all_eq_true]
  intro q hq
  have hp1 : p.1 ∈ bits.zip xs := by
    obtain ⟨i, hi⟩ := List.mem_iff_getElem?.1 hp
    rw [List.getElem?_zipIdx] at hi
    obtain ⟨y, hy, rfl⟩ := Option.map_eq_some_iff.1 hi
    exact List.mem_of_getElem? hy
  have hq1 : q.1 ∈ bits.zip xs := by
    obtain ⟨i, hi⟩ := List.mem_iff_getElem?.1 hq
    rw [List.getElem?_zipIdx] at hi
    obtain ⟨y, hy, rfl⟩ := Option.map_eq_some_iff.1 hi
    exact List.mem_of_mem_take (List.mem_of_getElem? hy)
  rw [h q.1.2 (List.of_mem_zip hq1).2 p.1.2 (List.of_mem_zip hp1).2, Bool.or_true]
theorem disj_spec {a b : List Nat} (h : disj a b = true) {n : Nat} (ha : n ∈ a) (hb : n ∈ b) : False := by
  unfold disj at h
  rw [List.all_eq_true] at h
  have := h n ha
  simp at this
  exact this hb

/-- How many have not come up. -/
def unlisted (n : Nat) (D : Nat → Bool) : Nat := ((List.range n).filter fun i => !D i).length
theorem unlisted_step {n i : Nat} {D : Nat → Bool} (hi : i < n) (hD : D i = false) : unlisted n (fun m => D m || decide (m = i)) + 1 ≤ unlisted n D := by
  unfold unlisted
  have hsub : ((List.range n).filter fun m => !(D m || decide (m = i))) = ((List.range n).filter fun m => !D m).filter fun m => !decide (m = i) := by
    rw [List.filter_filter]
    congr 1
    funext m
    cases D m <;> cases h : decide (m = i) <;> simp_all
  rw [hsub]
  have hm : i ∈ (List.range n).filter fun m => !D m := by simp [hi, hD]
  have hnd : ((List.range n).filter fun m => !D m).Nodup := List.filter_sublist.nodup List.nodup_range
  generalize (List.range n).filter (fun m => !D m) = l at hm hnd
  induction l with
  | nil => simp at hm
  | cons x r ih =>
    rw [List.nodup_cons] at hnd
    rcases List.mem_cons.1 hm with h | h
    · subst h
      have : (r.filter fun m => !decide (m = i)).length ≤ r.length := List.length_filter_le _ _
      simp only [List.filter_cons, decide_true, Bool.not_true, Bool.false_eq_true, if_false, List.length_cons]
      omega
    · have := ih h hnd.2
      have hx : x ≠ i := fun e => hnd.1 (e ▸ h)
      simp only [List.filter_cons, hx, decide_false, Bool.not_false, if_true, List.length_cons]
      omega

theorem unlisted_pos {n i : Nat} {D : Nat → Bool} (hi : i < n) (hD : D i = false) (h : unlisted n D ≤ 0) : False := by
  have hm : i ∈ (List.range n).filter fun m => !D m := by simp [hi, hD]
  have := List.length_pos_of_mem hm
  unfold unlisted at h
  omega
theorem dif_lt {D : Nat → Bool} {k i : Nat} (h : D k ≠ decide (k < i)) (hk : k < i) : D k = false := by
  cases hD : D k with
  | false => rfl
  | true => rw [hD] at h; simp [hk] at h
theorem dif_ge {D : Nat → Bool} {k i : Nat} (h : D k ≠ decide (k < i)) (hk : ¬ k < i) : D k = true := by
  cases hD : D k with
  | true => rfl
  | false => rw [hD] at h; simp [hk] at h
theorem looks_operand {ops : Array Oper} {o : Oper} {d : Tmp} (h : Operand.tmp d ∈ o.op.operands) : d ∈ o.looksAt ops :=
  List.mem_append_left _ (List.mem_filterMap.2 ⟨.tmp d, by simpa using h, rfl⟩)
theorem looks_guard {ops : Array Oper} {o : Oper} {j : Nat} {w : Bool} {d : Tmp} (hg : o.guard = some (j, w)) (hd : (ops[j]?).bind (·.dst) = some d) : d ∈ o.looksAt ops := by
  unfold Oper.looksAt
  refine List.mem_append_right _ ?_
  rw [hg]
  simp [hd]

set_option maxHeartbeats 4000000 in
theorem drawn_sound (hE : EnvOk E) {ops : Array Oper} {nt : Nat} {B : Base} {Q : Exit → Act → World → Prop} {c c' : Nat → TV S} {ob ob' : Nat → Option (Obj S)} {b b' : Nat} {es : List (Eff S)} {fs : List Foot}
    (htr : Trace E ops nt c ob b ops.toList es c' ob' b') (hft : Feet es fs) (hedge : edgesOk ops = true) (hpair : pairsOk (fun x y => x.apart ops y) (befores ops.toList []) ops.toList = true) (hfeet : pairsOk Foot.apart (befores ops.toList []) fs = true)
    (hB : B.m ≤ b) (h0 : ∀ n, b ≤ n → ob n = none) (hQ : ∀ a' w' φ' M', Rel E B nt c' ob' a' w' φ' M' → b ≤ b' → (∀ n, b' ≤ n → ob' n = none) → Q .normal a' w') :
    ∀ (fuel : Nat) (listed : Array Bool) (a : Act) (w : World) (φ : Phi) (M : Mem), listed.size = ops.size → (∀ i o, ops[i]? = some o → listed.getD i false = true → ∀ e ∈ o.after, Region.binds .any e = true → listed.getD e.on false = true) →
      unlisted ops.size (fun i => listed.getD i false) ≤ fuel → Rel E B nt (selPut c (ops.toList.zip es) 0 (fun i => listed.getD i false)) (selObj ob (ops.toList.zip es) 0 (fun i => listed.getD i false)) a w φ M → wpAny E.P .any ops Q fuel listed a w := by
  obtain ⟨⟨hc', hob', hbb, hfin⟩, hat⟩ := trace_at htr 0 h0
  obtain ⟨bits, hbits1, hbits2, hbits3⟩ := befores_spec ops.toList []
  simp only [List.nil_append] at hbits1 hbits3
  have hlen : es.length = ops.size := by have := htr.length; simpa using this
  have hbit : ∀ i, i < ops.size → ∃ s, (befores ops.toList [])[i]? = some s := fun i hi => ⟨_, List.getElem?_eq_getElem (by rw [hbits1, hbits2]; simpa using hi)⟩
  -- all have come up
  have allDone : ∀ (D : Nat → Bool) (a : Act) (w : World) (φ : Phi) (M : Mem), (∀ i, i < ops.size → D i = true) → Rel E B nt (selPut c (ops.toList.zip es) 0 D) (selObj ob (ops.toList.zip es) 0 D) a w φ M → Q .normal a w := by
    intro D a w φ M hD hrel
    have zlt : ∀ (i : Nat) (p : Oper × Eff S), (ops.toList.zip es)[i]? = some p → i < ops.size := by
      intro i p hp
      have := (List.getElem?_eq_some_iff.1 hp).1
      simp only [List.length_zip, Array.length_toList] at this; omega
    have e1 : selPut c (ops.toList.zip es) 0 D = c' := by
      rw [hc']; funext x
      exact selPut_congr _ c c 0 D _ rfl (fun i p hp hne => absurd (hD _ (by simpa using zlt i p hp)) (by intro h; exact hne (by rw [Nat.zero_add] at *; rw [h])))
    have e2 : selObj ob (ops.toList.zip es) 0 D = ob' := by
      rw [hob']; funext x
      exact selObj_congr _ ob ob 0 D _ rfl (fun i p hp hne => absurd (hD _ (by simpa using zlt i p hp)) (by intro h; exact hne (by rw [Nat.zero_add] at *; rw [h])))
    rw [e1, e2] at hrel
    exact hQ a w φ M hrel hbb hfin
  -- nothing can come up: all have
  have noneReady : ∀ (listed : Array Bool), listed.size = ops.size → Region.ready .any ops listed = [] → ∀ i, i < ops.size → listed.getD i false = true := by
    intro listed hsz hr i
    induction i using Nat.strongRecOn with
    | _ i ih =>
      intro hi
      cases hL : listed.getD i false with
      | true => rfl
      | false =>
        have hg : listed.getD i true = false := by
          have hlt : i < listed.size := by omega
          simp only [Array.getD_eq_getD_getElem?, Array.getElem?_eq_getElem hlt, Option.getD_some] at hL ⊢; exact hL
        have hmem : i ∈ Region.ready .any ops listed := by
          rw [mem_ready]
          refine ⟨hg, ops[i], Array.getElem?_eq_getElem hi, fun e he hb => ?_⟩
          have hlt := edges_spec hedge (Array.getElem?_eq_getElem hi) he hb
          exact ih e.on hlt (by omega)
        rw [hr] at hmem; cases hmem
  intro fuel
  induction fuel with
  | zero =>
    intro listed a w φ M hsz hcl hf hrel
    have hall : ∀ i, i < ops.size → listed.getD i false = true := by
      intro i hi
      cases hL : listed.getD i false with
      | true => rfl
      | false =>
        exfalso
        exact unlisted_pos hi hL hf
    refine ⟨?_, allDone _ a w φ M hall hrel⟩
    cases hr : Region.ready .any ops listed with
    | nil => rfl
    | cons i r =>
      have hm : i ∈ Region.ready .any ops listed := by rw [hr]; simp
      rw [mem_ready] at hm
      obtain ⟨h1, o, ho, _⟩ := hm
      have hi := (Array.getElem?_eq_some_iff.1 ho).1
      have h2 := hall i hi
      have hlt : i < listed.size := by omega
      simp only [Array.getD_eq_getD_getElem?, Array.getElem?_eq_getElem hlt, Option.getD_some] at h1 h2
      rw [h1] at h2; cases h2
  | succ fuel ih =>
    intro listed a w φ M hsz hcl hf hrel
    refine ⟨fun hr => allDone _ a w φ M (noneReady listed hsz hr) hrel, fun i hi => ?_⟩
    rw [mem_ready] at hi
    obtain ⟨hun, o, ho, hall⟩ := hi
    have hio := (Array.getElem?_eq_some_iff.1 ho).1
    have hDi : listed.getD i false = false := by
      have hlt : i < listed.size := by omega
      simp only [Array.getD_eq_getD_getElem?, Array.getElem?_eq_getElem hlt, Option.getD_some] at hun ⊢; exact hun
    let D : Nat → Bool := fun i => listed.getD i false
    obtain ⟨e, he⟩ : ∃ e, es[i]? = some e := ⟨_, List.getElem?_eq_getElem (by omega)⟩
    obtain ⟨hd, bi, q1, q2, q3, q4⟩ := hat i o e (by simpa using ho) he
    rw [Nat.zero_add] at q4
    have hclD : ∀ i o, ops[i]? = some o → D i = true → ∀ e ∈ o.after, Region.binds .any e = true → D e.on = true := hcl
    obtain ⟨si, hsi⟩ := hbit i hio
    have ziff : ∀ (k : Nat) (p : Oper × Eff S), (ops.toList.zip es)[k]? = some p → ops[k]? = some p.1 ∧ es[k]? = some p.2 ∧ k < ops.size := by
      intro k p hp
      rw [List.getElem?_zip_eq_some] at hp
      exact ⟨by simpa using hp.1, hp.2, by have := (List.getElem?_eq_some_iff.1 hp.2).1; omega⟩
    -- those that differ between 'all before i' and what has come up do not wait for i, nor i for them
    have before : ∀ (k : Nat) (p : Oper × Eff S), (ops.toList.zip es)[k]? = some p → k < i → D k = false → p.1.apart ops o = true ∧ ∀ f fi, fs[k]? = some f → fs[i]? = some fi → f.apart fi = true := by
      intro k p hp hki hDk
      obtain ⟨g1, g2, g3⟩ := ziff k p hp
      have hnot : si.testBit k ≠ true := by
        intro hb
        have := bits_closed hedge hclD i o si ho hsi hall k hb
        rw [hDk] at this; cases this
      exact ⟨(pairs_spec hpair hki (by simpa using g1) (by simpa using ho) hsi (hbit k g3)).resolve_left hnot, fun f fi hf1 hf2 => (pairs_spec hfeet hki hf1 hf2 hsi (hbit k g3)).resolve_left hnot⟩
    have behind : ∀ (k : Nat) (p : Oper × Eff S), (ops.toList.zip es)[k]? = some p → i < k → D k = true → o.apart ops p.1 = true ∧ ∀ f fi, fs[k]? = some f → fs[i]? = some fi → fi.apart f = true := by
      intro k p hp hki hDk
      obtain ⟨g1, g2, g3⟩ := ziff k p hp
      obtain ⟨sk, hsk⟩ := hbit k g3
      have hnot : sk.testBit i ≠ true := by
        intro hb
        have := bits_closed hedge hclD k p.1 sk g1 hsk (hclD k p.1 g1 hDk) i hb
        simp only [D] at this; rw [hDi] at this; cases this
      exact ⟨(pairs_spec hpair hki (by simpa using ho) (by simpa using g1) hsk (hbit i hio)).resolve_left hnot, fun f fi hf1 hf2 => (pairs_spec hfeet hki hf2 hf1 hsk (hbit i hio)).resolve_left hnot⟩
    have foot : ∀ (k : Nat) (e : Eff S), es[k]? = some e → ∃ f, fs[k]? = some f ∧ f.wr = e.wr.map (·.1) ∧ ∀ rd, f.rd = some rd → rd = e.rd := by
      intro k e hk
      obtain ⟨f, hf'⟩ : ∃ f, fs[k]? = some f := ⟨_, List.getElem?_eq_getElem (by rw [← hft.1]; exact (List.getElem?_eq_some_iff.1 hk).1)⟩
      exact ⟨f, hf', hft.2 k e f hk hf'⟩
    -- a slot that i looks at is as it was when the text came to i
    have slot : ∀ x, x ∈ o.looksAt ops → selPut c (ops.toList.zip es) 0 D x = selPut c (ops.toList.zip es) 0 (fun m => decide (m < i)) x := by
      intro x hx
      refine selPut_congr _ c c 0 _ _ rfl fun k p hp hne => ?_
      rw [Nat.zero_add] at hne
      intro hdst
      by_cases hki : k < i
      · have hDk : D k = false := dif_lt hne hki
        exact (Oper.apart_spec (before k p hp hki hDk).1).1 x hdst hx
      · have hDk : D k = true := dif_ge hne hki
        have hki2 : i < k := by
          rcases Nat.lt_or_eq_of_le (Nat.le_of_not_lt hki) with h | h
          · exact h
          · subst h; simp only [D] at hDk; rw [hDi] at hDk; cases hDk
        exact (Oper.apart_spec (behind k p hp hki2 hDk).1).2.2 x hdst hx
    have hwant : ∀ q, wantedT ops (selPut c (ops.toList.zip es) 0 (fun m => decide (m < i))) o = some q → wantedT ops (selPut c (ops.toList.zip es) 0 D) o = some q := by
      intro q hq
      unfold wantedT at hq ⊢
      split
      · rename_i hg; rw [hg] at hq; exact hq
      · rename_i j wv hg
        rw [hg] at hq
        simp only at hq
        split
        · rename_i hdj; rw [hdj] at hq; exact hq
        · rename_i d hdj
          rw [hdj] at hq
          simp only at hq
          rw [slot d (looks_guard hg hdj)]; exact hq
    -- the new set
    have hDnew : (fun m => (listed.setIfInBounds i true).getD m false) = fun m => D m || decide (m = 0 + i) := by
      funext m
      rw [Nat.zero_add]
      by_cases hm : m = i
      · subst hm
        have hlt : m < listed.size := by omega
        simp [Array.getD_eq_getD_getElem?, hlt]
      · simp only [hm, decide_false, Bool.or_false, D]
        rw [getD_set_ne false (Ne.symm hm)]
    have hzi : (ops.toList.zip es)[i]? = some (o, e) := by rw [List.getElem?_zip_eq_some]; exact ⟨by simpa using ho, he⟩
    have hslotNew : selPut c (ops.toList.zip es) 0 (fun m => D m || decide (m = 0 + i)) = putDst (selPut c (ops.toList.zip es) 0 D) o.dst e.v := by
      funext x
      exact selPut_insert (x := x) _ c 0 i D (o, e) hzi (by rw [Nat.zero_add]; exact hDi) (fun j q hj hij hDj hdx => by
        rw [Nat.zero_add] at hDj
        exact (Oper.apart_spec (behind j q hj hij hDj).1).2.1 x hdx)
    have hobjNew : selObj ob (ops.toList.zip es) 0 (fun m => D m || decide (m = 0 + i)) = setAll (selObj ob (ops.toList.zip es) 0 D) e.wr := by
      funext n
      exact selObj_insert (n := n) _ ob 0 i D (o, e) hzi (by rw [Nat.zero_add]; exact hDi) (fun j q hj hij hDj hni hnj => by
        rw [Nat.zero_add] at hDj
        obtain ⟨g1, g2, g3⟩ := ziff j q hj
        obtain ⟨fk, f1, f2, f3⟩ := foot j q.2 g2
        obtain ⟨fi, f4, f5, f6⟩ := foot i e he
        have hap := (behind j q hj hij hDj).2 fk fi f1 f4
        unfold Foot.apart at hap
        rw [f2, f5] at hap
        simp only [Bool.or_eq_true, Bool.and_eq_true, List.isEmpty_iff] at hap
        rcases hap with ⟨h1, _⟩ | ⟨⟨h1, _⟩, _⟩
        · rw [h1] at hni; simp at hni
        · exact disj_spec h1 hni hnj)
    have hnext : ∀ (a' : Act) (w' : World), (∃ φ' M', Rel E B nt (putDst (selPut c (ops.toList.zip es) 0 D) o.dst e.v) (setAll (selObj ob (ops.toList.zip es) 0 D) e.wr) a' w' φ' M') → wpAny E.P .any ops Q fuel (listed.setIfInBounds i true) a' w' := by
      rintro a' w' ⟨φ', M', hrel'⟩
      refine ih (listed.setIfInBounds i true) a' w' φ' M' (by simpa using hsz) (fun j oj hj hLj ee hee hbe => ?_) ?_ ?_
      · by_cases hji : j = i
        · subst hji
          rw [ho] at hj; cases hj
          exact getD_set_true (hall ee hee hbe)
        · rw [getD_set_ne false (Ne.symm hji)] at hLj
          exact getD_set_true (hcl j oj hj hLj ee hee hbe)
      · rw [hDnew]
        have := unlisted_step (D := D) hio hDi
        rw [Nat.zero_add]
        have hf' : unlisted ops.size D ≤ fuel + 1 := hf
        omega
      · rw [hDnew, hslotNew, hobjNew]; exact hrel'
    unfold wpOp
    simp only [ho]
    rcases q4 with ⟨hw, t, ht, hok⟩ | ⟨hw, rfl⟩
    · rw [wanted_model hrel (hwant true hw)]
      simp only [if_true]
      left
      unfold Oper.wp
      refine Oper.wp_mono (o := o) (a := a) (w := w) (K := fun a' w' => ∃ φ' M', Rel E B nt (putDst (selPut c (ops.toList.zip es) 0 D) o.dst e.v) (setAll (selObj ob (ops.toList.zip es) 0 D) e.wr) a' w' φ' M') hnext ?_
      refine hok.run B nt _ _ a w φ M Q hd (fun x hx => ?_) (fun n hn => ?_) (fun n h1 h2 => ?_) (Nat.le_trans hB q1) hrel
      · have := hrel.ev x
        cases x with
        | tmp j =>
          rcases ht j with e' | e'
          · show VR E φ M (t j) _
            rw [e', ← slot j (looks_operand hx)]; exact this
          · show VR E φ M (t j) _
            rw [e']; exact .dead _
        | const v => exact this
        | func f => exact this
        | global g => exact this
      · -- objects that i reads
        refine selObj_congr _ ob ob 0 _ _ rfl fun k p hp hne hnk => ?_
        rw [Nat.zero_add] at hne
        obtain ⟨g1, g2, g3⟩ := ziff k p hp
        obtain ⟨fk, f1, f2, f3⟩ := foot k p.2 g2
        obtain ⟨fi, f4, f5, f6⟩ := foot i e he
        by_cases hki : k < i
        · have hDk : D k = false := dif_lt hne hki
          have hap := (before k p hp hki hDk).2 fk fi f1 f4
          unfold Foot.apart at hap
          rw [f2, f5] at hap
          simp only [Bool.or_eq_true, Bool.and_eq_true, List.isEmpty_iff] at hap
          rcases hap with ⟨h1, _⟩ | ⟨⟨_, h2⟩, _⟩
          · rw [h1] at hnk; simp at hnk
          · rcases h2 with h2 | h2
            · rw [h2] at hnk; simp at hnk
            · cases hfi : fi.rd with
              | none => rw [hfi] at h2; cases h2
              | some rd =>
                rw [hfi] at h2
                rw [f6 rd hfi] at h2
                exact disj_spec h2 hnk hn
        · have hDk : D k = true := dif_ge hne hki
          have hki2 : i < k := by
            rcases Nat.lt_or_eq_of_le (Nat.le_of_not_lt hki) with h | h
            · exact h
            · subst h; simp only [D] at hDk; rw [hDi] at hDk; cases hDk
          have hap := (behind k p hp hki2 hDk).2 fk fi f1 f4
          unfold Foot.apart at hap
          rw [f2, f5] at hap
          simp only [Bool.or_eq_true, Bool.and_eq_true, List.isEmpty_iff] at hap
          rcases hap with ⟨_, h1⟩ | ⟨_, h3⟩
          · rw [h1] at hnk; simp at hnk
          · rcases h3 with h3 | h3
            · rw [h3] at hnk; simp at hnk
            · cases hfi : fi.rd with
              | none => rw [hfi] at h3; cases h3
              | some rd =>
                rw [hfi] at h3
                rw [f6 rd hfi] at h3
                exact disj_spec h3 hnk hn
      · -- names that i makes are free
        have hini : selObj ob (ops.toList.zip es) 0 (fun _ => false) n = none := by
          have : ∀ (l : List (Oper × Eff S)) (c : Nat → Option (Obj S)) (k : Nat), selObj c l k (fun _ => false) = c := by
            intro l
            induction l with
            | nil => intro c k; rfl
            | cons p r ih => intro c k; exact ih c (k + 1)
          rw [this]; exact h0 n (Nat.le_trans q1 h1)
        rw [← hini]
        refine selObj_congr _ ob ob 0 _ _ rfl fun k p hp hne hnk => ?_
        rw [Nat.zero_add] at hne
        have hDk : D k = true := by
          cases hD : D k with
          | true => rfl
          | false => exact absurd hD hne
        obtain ⟨g1, g2, g3⟩ := ziff k p hp
        by_cases hki : k < i
        · simp only [List.mem_map] at hnk
          obtain ⟨pr, hpr, rfl⟩ := hnk
          have := q3 k p.2 g2 hki pr hpr
          omega
        · have hki2 : i < k := by
            rcases Nat.lt_or_eq_of_le (Nat.le_of_not_lt hki) with h | h
            · exact h
            · subst h; simp only [D] at hDk; rw [hDi] at hDk; cases hDk
          have hnew := hok.new n h1 h2
          obtain ⟨fk, f1, f2, f3⟩ := foot k p.2 g2
          obtain ⟨fi, f4, f5, f6⟩ := foot i e he
          have hap := (behind k p hp hki2 hDk).2 fk fi f1 f4
          unfold Foot.apart at hap
          rw [f2, f5] at hap
          simp only [Bool.or_eq_true, Bool.and_eq_true, List.isEmpty_iff] at hap
          rcases hap with ⟨h3, _⟩ | ⟨⟨h3, _⟩, _⟩
          · rw [h3] at hnew; simp at hnew
          · exact disj_spec h3 hnew hnk
    · rw [wanted_model hrel (hwant false hw)]
      simp only [Bool.false_eq_true, if_false]
      refine hnext _ _ ⟨φ, M, ?_⟩
      exact hrel.skip hd
end TE
