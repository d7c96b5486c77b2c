/- TE: what a run of a region comes to, operation by operation. -/
import Derived.Test.YtkhkbikglgpkoaaGreatTE15
namespace TE
open Go
variable {S : Sig} {E : Env S}

/-- A run in the order of the text: the slots as they are, the evaluator's own view of them (some it has forgotten), and of each operation what it is worth. -/
inductive Trace (E : Env S) (ops : Array Oper) (nt : Nat) : (Nat → TV S) → (Nat → Option (Obj S)) → Nat → List Oper → List (Eff S) → (Nat → TV S) → (Nat → Option (Obj S)) → Nat → Prop
  | nil (c : Nat → TV S) (ob : Nat → Option (Obj S)) (b : Nat) : Trace E ops nt c ob b [] [] c ob b
  | run {c c' t : Nat → TV S} {ob ob' : Nat → Option (Obj S)} {b b' : Nat} {o : Oper} {l : List Oper} {e : Eff S} {es : List (Eff S)} (hd : dstOk nt o.dst = true) (hw : wantedT ops c o = some true)
      (ht : ∀ x, t x = c x ∨ t x = .dead) (he : OpOK E o t ob b e) (h : Trace E ops nt (putDst c o.dst e.v) (setAll ob e.wr) e.nx l es c' ob' b') : Trace E ops nt c ob b (o :: l) (e :: es) c' ob' b'
  | skip {c c' : Nat → TV S} {ob ob' : Nat → Option (Obj S)} {b b' : Nat} {o : Oper} {l : List Oper} {es : List (Eff S)} (hd : dstOk nt o.dst = true) (hw : wantedT ops c o = some false)
      (h : Trace E ops nt (putDst c o.dst .undef) ob b l es c' ob' b') : Trace E ops nt c ob b (o :: l) (⟨.undef, [], [], b⟩ :: es) c' ob' b'

theorem Trace.append {ops : Array Oper} {nt : Nat} {c c1 c2 : Nat → TV S} {ob ob1 ob2 : Nat → Option (Obj S)} {b b1 b2 : Nat} {l l2 : List Oper} {es es2 : List (Eff S)} (h : Trace E ops nt c ob b l es c1 ob1 b1) (h2 : Trace E ops nt c1 ob1 b1 l2 es2 c2 ob2 b2) :
    Trace E ops nt c ob b (l ++ l2) (es ++ es2) c2 ob2 b2 := by
  induction h with
  | nil => exact h2
  | run hd hw ht he _ ih => exact .run hd hw ht he (ih h2)
  | skip hd hw _ ih => exact .skip hd hw (ih h2)
theorem Trace.length {ops : Array Oper} {nt : Nat} {c c1 : Nat → TV S} {ob ob1 : Nat → Option (Obj S)} {b b1 : Nat} {l : List Oper} {es : List (Eff S)} (h : Trace E ops nt c ob b l es c1 ob1 b1) : es.length = l.length := by
  induction h with
  | nil => rfl
  | run _ _ _ _ _ ih => simp [ih]
  | skip _ _ _ ih => simp [ih]

def dsts (l : List Oper) : List Tmp := l.filterMap (·.dst)
theorem putDst_other {t : Nat → TV S} {d : Option Tmp} {v : TV S} {x : Nat} (h : d ≠ some x) : putDst t d v x = t x := by
  cases d with
  | none => rfl
  | some d => exact setF_ne _ _ (fun e => h (by rw [e]))
theorem putDst_self {t : Nat → TV S} {d : Tmp} {v : TV S} : putDst t (some d) v d = v := setF_self _ _ _
theorem Trace.frame {ops : Array Oper} {nt : Nat} {c c1 : Nat → TV S} {ob ob1 : Nat → Option (Obj S)} {b b1 : Nat} {l : List Oper} {es : List (Eff S)} (h : Trace E ops nt c ob b l es c1 ob1 b1) : ∀ x, x ∉ dsts l → c1 x = c x := by
  induction h with
  | nil => intro x _; rfl
  | run hd hw ht he h ih =>
    intro x hx
    simp only [dsts, List.mem_filterMap] at hx ih
    rw [ih x (fun ⟨o, ho, e⟩ => hx ⟨o, by simp [ho], e⟩), putDst_other]
    exact fun e => hx ⟨_, by simp, e⟩
  | skip hd hw h ih =>
    intro x hx
    simp only [dsts, List.mem_filterMap] at hx ih
    rw [ih x (fun ⟨o, ho, e⟩ => hx ⟨o, by simp [ho], e⟩), putDst_other]
    exact fun e => hx ⟨_, by simp, e⟩
theorem Trace.quiet {ops : Array Oper} {nt : Nat} {c c1 : Nat → TV S} {ob ob1 : Nat → Option (Obj S)} {b b1 : Nat} {l : List Oper} {es : List (Eff S)} (h : Trace E ops nt c ob b l es c1 ob1 b1) (hq : ∀ e ∈ es, e.wr = []) : ob1 = ob ∧ b1 = b := by
  induction h with
  | nil => exact ⟨rfl, rfl⟩
  | @run c c' t ob ob' b b' o l e es hd hw ht he h ih =>
    obtain ⟨h1, h2⟩ := ih (fun e he => hq e (by simp [he]))
    have hwr := hq e (by simp)
    have hnx : e.nx = b := by
      rcases Nat.lt_or_ge b e.nx with h' | h'
      · have := he.new b (Nat.le_refl _) h'
        rw [hwr] at this; simp at this
      · have := he.nx; omega
    rw [hwr] at h1
    exact ⟨h1, by rw [h2, hnx]⟩
  | skip hd hw h ih => exact ih (fun e he => hq e (by simp [he]))

theorem killAll_other (l : List Oper) : ∀ (t : Nat → TV S) (x : Nat), x ∉ dsts l → killAll t l x = t x := by
  induction l with
  | nil => intro t x _; rfl
  | cons o r ih =>
    intro t x hx
    simp only [dsts, List.mem_filterMap] at hx ih
    simp only [killAll]
    rw [ih _ x (fun ⟨o', ho, e⟩ => hx ⟨o', by simp [ho], e⟩), putDst_other]
    exact fun e => hx ⟨_, by simp, e⟩
theorem killAll_dead (l : List Oper) : ∀ (t : Nat → TV S) (x : Nat), t x = .dead → killAll t l x = .dead := by
  induction l with
  | nil => intro t x h; exact h
  | cons o r ih =>
    intro t x h
    refine ih _ x ?_
    cases ho : o.dst with
    | none => exact h
    | some d =>
      by_cases e : x = d
      · subst e; exact putDst_self
      · rw [putDst_other (by intro e'; exact e (by cases e'; rfl))]; exact h
theorem killAll_in (l : List Oper) : ∀ (t : Nat → TV S) (x : Nat), x ∈ dsts l → killAll t l x = .dead := by
  induction l with
  | nil => intro t x h; simp [dsts] at h
  | cons o r ih =>
    intro t x h
    simp only [killAll]
    by_cases hr : x ∈ dsts r
    · exact ih _ x hr
    · have : o.dst = some x := by
        simp only [dsts, List.mem_filterMap] at h hr
        obtain ⟨o', ho', e⟩ := h
        rcases List.mem_cons.1 ho' with rfl | h'
        · exact e
        · exact absurd ⟨o', h', e⟩ hr
      exact killAll_dead r _ x (by rw [this]; exact putDst_self)

theorem findPick_spec {d : Tmp} : ∀ {l g rest : List Oper} {p : Oper}, findPick d l = some (g, p, rest) → l = g ++ p :: rest ∧ ∃ a b, p.op = .pick (.tmp d) a b
  | [], _, _, _, h => by simp [findPick] at h
  | o :: r, g, rest, p, h => by
    unfold findPick at h
    split at h
    · rename_i c a b ho
      split at h
      · rename_i hc
        subst hc
        cases h
        exact ⟨rfl, a, b, ho⟩
      · obtain ⟨⟨g', p', r'⟩, h1, h2⟩ := Option.map_eq_some_iff.1 h
        cases h2
        obtain ⟨h3, h4⟩ := findPick_spec h1
        exact ⟨by rw [h3]; rfl, h4⟩
    · obtain ⟨⟨g', p', r'⟩, h1, h2⟩ := Option.map_eq_some_iff.1 h
      cases h2
      obtain ⟨h3, h4⟩ := findPick_spec h1
      exact ⟨by rw [h3]; rfl, h4⟩

/-- What is wanted of slots of which some are forgotten is wanted of them all. -/
theorem wanted_cur {ops : Array Oper} {t c : Nat → TV S} {o : Oper} {b : Bool} (h : wantedT ops t o = some b) (ht : ∀ x, t x = c x ∨ t x = .dead) : wantedT ops c o = some b := by
  unfold wantedT at h ⊢
  split
  · rename_i hg; rw [hg] at h; exact h
  · rename_i j w hg
    rw [hg] at h
    simp only at h
    split
    · rename_i hd; rw [hd] at h; exact h
    · rename_i d hd
      rw [hd] at h
      simp only at h
      rcases ht d with e | e
      · rw [← e]; exact h
      · rw [e] at h; cases h
theorem isSome'_spec {x : Option Bool} {b : Bool} (h : isSome' x b = true) : x = some b := by
  unfold isSome' at h
  split at h
  · simp at h; rw [h]
  · cases h
theorem isBool_spec {x : TV S} {b : Bool} (h : isBool x b = true) : x = .bool b := by
  unfold isBool at h
  split at h
  · simp at h; rw [h]
  · cases h
theorem boolOf_spec {x : TV S} {b : Bool} (h : boolOf x = some b) : x = .bool b := by
  unfold boolOf at h
  split at h
  · cases h; rfl
  · cases h

/-- What the evaluator notes of operations, beside what they do. -/
def Feet (es : List (Eff S)) (fs : List Foot) : Prop := es.length = fs.length ∧ ∀ (i : Nat) (e : Eff S) (f : Foot), es[i]? = some e → fs[i]? = some f → f.wr = e.wr.map (·.1) ∧ ∀ rd, f.rd = some rd → rd = e.rd
theorem Feet.append {es es2 : List (Eff S)} {fs fs2 : List Foot} (h : Feet es fs) (h2 : Feet es2 fs2) : Feet (es ++ es2) (fs ++ fs2) := by
  refine ⟨by simp [h.1, h2.1], fun i e f he hf => ?_⟩
  by_cases hi : i < es.length
  · rw [List.getElem?_append_left hi] at he
    rw [List.getElem?_append_left (by rw [← h.1]; exact hi)] at hf
    exact h.2 i e f he hf
  · rw [List.getElem?_append_right (by omega)] at he
    rw [List.getElem?_append_right (by rw [← h.1]; omega)] at hf
    rw [← h.1] at hf
    exact h2.2 _ e f he hf
theorem Feet.cons {es : List (Eff S)} {fs : List Foot} {e : Eff S} {f : Foot} (h1 : f.wr = e.wr.map (·.1)) (h2 : ∀ rd, f.rd = some rd → rd = e.rd) (h : Feet es fs) : Feet (e :: es) (f :: fs) := by
  refine Feet.append (es := [e]) (fs := [f]) ⟨rfl, fun i e' f' he hf => ?_⟩ h
  cases i with
  | zero => simp at he hf; subst he; subst hf; exact ⟨h1, h2⟩
  | succ i => simp at he
theorem Feet.top {es : List (Eff S)} {g : List Oper} (hl : es.length = g.length) (h : ∀ e ∈ es, e.wr = []) : Feet es (g.map fun _ => Foot.top) := by
  refine ⟨by simp [hl], fun i e f he hf => ?_⟩
  rw [List.getElem?_map] at hf
  obtain ⟨o, _, rfl⟩ := Option.map_eq_some_iff.1 hf
  exact ⟨by rw [h e (List.mem_of_getElem? he)]; rfl, fun rd h => by cases h⟩

theorem skipRun_trace {ops : Array Oper} {nt : Nat} : ∀ (g : List Oper) (t c t1 : Nat → TV S) (ob : Nat → Option (Obj S)) (b : Nat), skipRun ops nt g t = some t1 → (∀ x, t x = c x ∨ t x = .dead) →
    ∃ es c1, Trace E ops nt c ob b g es c1 ob b ∧ (∀ x, t1 x = c1 x ∨ t1 x = .dead) ∧ (∀ e ∈ es, e.wr = []) ∧ ∀ e ∈ es, e.rd = []
  | [], t, c, t1, ob, b, h, ht => by
    simp only [skipRun, Option.some.injEq] at h
    subst h
    exact ⟨[], c, .nil _ _ _, ht, by simp, by simp⟩
  | o :: r, t, c, t1, ob, b, h, ht => by
    unfold skipRun at h
    split at h
    · rename_i hw
      split at h
      · rename_i hd
        have ht' : ∀ x, putDst t o.dst .undef x = putDst c o.dst .undef x ∨ putDst t o.dst .undef x = .dead := by
          intro x
          cases ho : o.dst with
          | none => exact ht x
          | some d =>
            by_cases e : x = d
            · subst e; left; rw [putDst_self, putDst_self]
            · have hne : (some d : Option Tmp) ≠ some x := by intro e'; exact e (by cases e'; rfl)
              rw [putDst_other hne, putDst_other hne]; exact ht x
        obtain ⟨es, c1, h1, h2, h3, h5⟩ := skipRun_trace r _ (putDst c o.dst .undef) t1 ob b h ht'
        refine ⟨_, c1, .skip hd (wanted_cur hw ht) h1, h2, fun e he => ?_, fun e he => ?_⟩
        · rcases List.mem_cons.1 he with rfl | h'
          · rfl
          · exact h3 e h'
        · rcases List.mem_cons.1 he with rfl | h'
          · rfl
          · exact h5 e h'
      · cases h
    · cases h

theorem runC_trace (hE : EnvOk E) (hf : CallfOK E) {H : Hint S} {nt : Nat} {ops : Array Oper} : ∀ (n : Nat) (R : Type) (as : List (Nat × Bool)) (l : List Oper) (st : St S) (fs : List Foot) (k : St S → List Foot → Option R) (r : R) (c : Nat → TV S),
    runC E H nt ops n R as l st fs k = some r → (∀ x, st.t x = c x ∨ st.t x = .dead) →
    ∃ es c' st' nf, Trace E ops nt c st.o st.next l es c' st'.o st'.next ∧ k st' (nf.reverse ++ fs) = some r ∧ (∀ x, st'.t x = c' x ∨ st'.t x = .dead) ∧ Feet es nf := by
  intro n
  induction n with
  | zero => intro R as l st fs k r c h; simp [runC] at h
  | succ n ih =>
    intro R as l st fs k r c h hc
    cases l with
    | nil =>
      simp only [runC] at h
      exact ⟨[], c, st, [], .nil _ _ _, h, hc, ⟨rfl, fun i e f he => by simp at he⟩⟩
    | cons o rest =>
      simp only [runC] at h
      split at h
      · -- it runs
        split at h
        · rename_i hchk
          simp only [Bool.and_eq_true] at hchk
          obtain ⟨hd, hw⟩ := hchk
          rw [opEvalF_eq] at h
          obtain ⟨e, he, hok⟩ := op_sound hE hf h
          have hc2 : ∀ x, (st.after o e).t x = putDst c o.dst e.v x ∨ (st.after o e).t x = .dead := by
            intro x
            show putDst st.t o.dst e.v x = _ ∨ putDst st.t o.dst e.v x = _
            cases ho : o.dst with
            | none => exact hc x
            | some d =>
              by_cases e : x = d
              · subst e; left; rw [putDst_self, putDst_self]
              · have hne : (some d : Option Tmp) ≠ some x := by intro e'; exact e (by cases e'; rfl)
                rw [putDst_other hne, putDst_other hne]; exact hc x
          obtain ⟨es, c', st', nf, h1, h2, h3, h4⟩ := ih R as rest (st.after o e) (e.foot :: fs) k r _ he hc2
          refine ⟨e :: es, c', st', e.foot :: nf, .run hd (wanted_cur (isSome'_spec hw) hc) hc hok h1, by simpa using h2, h3, Feet.cons rfl (fun rd h => by cases h; rfl) h4⟩
        · cases h
      · split at h
        · cases h
        · rename_i j w hg
          split at h
          · cases h
          · rename_i d hdj
            split at h
            · split at h
              · rename_i q hq
                have hcd : c d = .bool q := by
                  rcases hc d with e | e
                  · rw [← e]; exact hq
                  · rw [hq] at e; cases e
                have hcs : ∀ b, b = q → ∀ x, (setF st.t d (.bool b)) x = c x ∨ (setF st.t d (.bool b)) x = .dead := by
                  intro b hb x
                  by_cases e : x = d
                  · subst e; left; rw [setF_self, hcd, hb]
                  · rw [setF_ne _ _ e]; exact hc x
                split at h
                · rename_i hqw
                  exact ih R _ (o :: rest) ⟨setF st.t d (.bool w), st.o, st.next⟩ fs k r c h (hcs w (by simpa using (beq_iff_eq.1 hqw).symm))
                · rename_i hqw
                  split at h
                  · cases h
                  · rename_i g p rest' hfp
                    obtain ⟨hl, _⟩ := findPick_spec hfp
                    split at h
                    · rename_i t1 ht1
                      obtain ⟨es1, c1, g1, g2, g3, g5⟩ := skipRun_trace (E := E) g _ c t1 st.o st.next ht1 (hcs (!w) (by cases q <;> cases w <;> simp_all))
                      obtain ⟨es2, c', st', nf, h1, h2, h3, h4⟩ := ih R as (p :: rest') ⟨t1, st.o, st.next⟩ _ k r c1 h g2
                      refine ⟨es1 ++ es2, c', st', (g.map fun _ => (⟨some [], []⟩ : Foot)) ++ nf, ?_, ?_, h3, ?_⟩
                      · rw [hl]; exact g1.append h1
                      · have : (List.map (fun _ => (⟨some [], []⟩ : Foot)) g).reverse = List.map (fun _ => (⟨some [], []⟩ : Foot)) g := by
                          rw [List.map_const', List.reverse_replicate]
                        rw [List.reverse_append, this]
                        simpa using h2
                      · refine Feet.append ⟨by simp [g1.length], fun i e f he hf' => ?_⟩ h4
                        rw [List.getElem?_map] at hf'
                        obtain ⟨_, _, rfl⟩ := Option.map_eq_some_iff.1 hf'
                        have hm := List.mem_of_getElem? he
                        exact ⟨by rw [g3 e hm]; rfl, fun rd h => by cases h; rw [g5 e hm]⟩
                    · cases h
              · cases h
            · split at h
              · cases h
              rename_i g p rest' hfp
              obtain ⟨hl, pa, pb, hpop⟩ := findPick_spec hfp
              split at h
              · rename_i q a b hq hpick
                split at h
                · rename_i hdp
                  have hab : a = pa ∧ b = pb := by
                    simp only [pickOp, hpop, Option.some.injEq, Prod.mk.injEq] at hpick
                    exact ⟨hpick.1.symm, hpick.2.symm⟩
                  obtain ⟨rfl, rfl⟩ := hab
                  simp only [Option.bind_eq_some_iff] at h
                  obtain ⟨res, hres, h⟩ := h
                  have hcd : c d = .bool q := by
                    rcases hc d with e | e
                    · rw [← e]; exact hq
                    · rw [hq] at e; cases e
                  -- the group and its pick, either way
                  have group : ∃ es1 c1 t1, Trace E ops nt c st.o st.next g es1 c1 st.o st.next ∧ (∀ e ∈ es1, e.wr = []) ∧ OpOK E p t1 st.o st.next ⟨.bool res, [], [], st.next⟩ ∧ wantedT ops c1 p = some true ∧ (∀ x, t1 x = c1 x ∨ t1 x = .dead) := by
                    unfold ifB at hres
                    split at hres
                    · rename_i hqw
                      have hqw : q = w := by simpa using hqw
                      subst hqw
                      have hc2 : ∀ x, (setF st.t d (.bool q)) x = c x ∨ (setF st.t d (.bool q)) x = .dead := by
                        intro x
                        by_cases e : x = d
                        · subst e; left; rw [setF_self, hcd]
                        · rw [setF_ne _ _ e]; exact hc x
                      obtain ⟨es1, c1, st1, nf1, h1, h2, h3, h4⟩ := ih Bool _ g _ [] _ res c hres hc2
                      split at h2
                      · rename_i hchk
                        simp only [Bool.and_eq_true, List.append_nil] at hchk
                        obtain ⟨hquiet, hwp, hbd⟩ := hchk
                        have hqe : ∀ e ∈ es1, e.wr = [] := by
                          intro e he
                          obtain ⟨i, hi⟩ := List.mem_iff_getElem?.1 he
                          obtain ⟨f, hf'⟩ : ∃ f, nf1[i]? = some f := ⟨_, List.getElem?_eq_getElem (by rw [← h4.1]; exact (List.getElem?_eq_some_iff.1 hi).1)⟩
                          have hw1 := (h4.2 i e f hi hf').1
                          have hq1 := List.all_eq_true.1 hquiet f (by rw [List.mem_reverse]; exact List.mem_of_getElem? hf')
                          simp only [quietF, List.isEmpty_iff] at hq1
                          rw [hq1] at hw1
                          exact List.map_eq_nil_iff.1 hw1.symm
                        obtain ⟨e1, e2⟩ := h1.quiet hqe
                        refine ⟨es1, c1, st1.t, by rw [← e1, ← e2] ; rw [e1, e2]; exact (by rw [e1, e2] at h1; exact h1), hqe, ?_, wanted_cur (isSome'_spec hwp) h3, h3⟩
                        exact ok_pick' hpop (isBool_spec hbd) (boolOf_spec h2)
                      · cases h2
                    · rename_i hqw
                      have hqw : q = !w := by cases q <;> cases w <;> simp_all
                      split at hres
                      · rename_i t1 ht1
                        have hc2 : ∀ x, (setF st.t d (.bool (!w))) x = c x ∨ (setF st.t d (.bool (!w))) x = .dead := by
                          intro x
                          by_cases e : x = d
                          · subst e; left; rw [setF_self, hcd, hqw]
                          · rw [setF_ne _ _ e]; exact hc x
                        obtain ⟨es1, c1, h1, h2, h3, _⟩ := skipRun_trace (E := E) g _ c t1 st.o st.next ht1 hc2
                        split at hres
                        · rename_i hchk
                          simp only [Bool.and_eq_true] at hchk
                          refine ⟨es1, c1, t1, h1, h3, ?_, wanted_cur (isSome'_spec hchk.1) h2, h2⟩
                          refine ok_pick' hpop (isBool_spec hchk.2) ?_
                          rw [← boolOf_spec hres]
                          cases w <;> rfl
                        · cases hres
                      · cases hres
                  obtain ⟨es1, c1, t1, htr, hqe, hok, hwp, ht1⟩ := group
                  have hc3 : ∀ x, putDst (killAll st.t g) p.dst (.bool res) x = putDst c1 p.dst (.bool res) x ∨ putDst (killAll st.t g) p.dst (.bool res) x = .dead := by
                    intro x
                    have base : killAll st.t g x = c1 x ∨ killAll st.t g x = .dead := by
                      by_cases hx : x ∈ dsts g
                      · exact .inr (killAll_in g _ x hx)
                      · rw [killAll_other g _ x hx, htr.frame x hx]; exact hc x
                    cases ho : p.dst with
                    | none => exact base
                    | some d' =>
                      by_cases e : x = d'
                      · subst e; left; rw [putDst_self, putDst_self]
                      · have hne : (some d' : Option Tmp) ≠ some x := by intro e'; exact e (by cases e'; rfl)
                        rw [putDst_other hne, putDst_other hne]; exact base
                  obtain ⟨es2, c', st', nf, h1, h2, h3, h4⟩ := ih R as rest' ⟨putDst (killAll st.t g) p.dst (.bool res), st.o, st.next⟩ _ k r _ h hc3
                  refine ⟨es1 ++ ⟨.bool res, [], [], st.next⟩ :: es2, c', st', (g.map fun _ => Foot.top) ++ ⟨some [], []⟩ :: nf, ?_, ?_, h3, ?_⟩
                  · rw [hl]
                    exact htr.append (.run hdp hwp ht1 hok h1)
                  · have : (List.map (fun _ => Foot.top) g).reverse = List.map (fun _ => Foot.top) g := by
                      rw [List.map_const', List.reverse_replicate]
                    rw [List.reverse_append, List.reverse_cons, this]
                    simpa using h2
                  · exact (Feet.top htr.length hqe).append (Feet.cons rfl (fun rd h => by cases h; rfl) h4)
                · cases h
              · cases h
end TE
