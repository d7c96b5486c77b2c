/- TE: what a run of a region comes to, operation by operation. -/
import Derived.Test.YtcllbmdpckfnhaaGreatTE15
namespace TE
open Go
variable {S : Sig} {E : Env S}
inductive Trace (E : Env S) (ops : Array Oper) (nt : Nat) : (Nat → TV S) → (Nat → Option (Obj S)) → Nat → List Oper → List (Eff S) → (Nat → TV S) → (Nat → Option (Obj S)) → Nat → Prop
 | nil (c : Nat → TV S) (ob : Nat → Option (Obj S)) (b : Nat) : Trace E ops nt c ob b [] [] c ob b
 | run {c c' t : Nat → TV S} {ob ob' : Nat → Option (Obj S)} {b b' : Nat} {o : Oper} {l : List Oper} {e : Eff S} {es : List (Eff S)} (hd : wI nt o.dst = true) (hw : iK ops c o = some true)
   (ht : ∀ x, t x = c x ∨ t x = .dead) (he : cw E o t ob b e) (h : Trace E ops nt (putDst c o.dst e.v) (aM ob e.wr) e.nx l es c' ob' b') : Trace E ops nt c ob b (o :: l) (e :: es) c' ob' b'
 | skip {c c' : Nat → TV S} {ob ob' : Nat → Option (Obj S)} {b b' : Nat} {o : Oper} {l : List Oper} {es : List (Eff S)} (hd : wI nt o.dst = true) (hw : iK ops c o = some false)
   (h : Trace E ops nt (putDst c o.dst .undef) ob b l es c' ob' b') : Trace E ops nt c ob b (o :: l) (⟨.undef, [], [], b⟩ :: es) c' ob' b'
theorem Trace.append {ops : Array Oper} {nt : Nat} {c c1 c2 : Nat → TV S} {ob ob1 ob2 : Nat → Option (Obj S)} {b b1 b2 : Nat} {l l2 : List Oper} {es es2 : List (Eff S)} (h : Trace E ops nt c ob b l es c1 ob1 b1) (h2 : Trace E ops nt c1 ob1 b1 l2 es2 c2 ob2 b2) :
  Trace E ops nt c ob b (l ++ l2) (es ++ es2) c2 ob2 b2 := by
 induction h with
 | nil => exact h2
 | run hd hw ht he _ ih => exact .run hd hw ht he (ih h2)
 | skip hd hw _ ih => exact .skip hd hw (ih h2)
theorem Trace.length {ops : Array Oper} {nt : Nat} {c c1 : Nat → TV S} {ob ob1 : Nat → Option (Obj S)} {b b1 : Nat} {l : List Oper} {es : List (Eff S)} (h : Trace E ops nt c ob b l es c1 ob1 b1) : es.length = l.length := by
 induction h with
 | nil => rfl
 | run _ _ _ _ _ ih => simp [ih]
 | skip _ _ _ ih => simp [ih]
def Gi (l : List Oper) : List Tmp := l.filterMap (·.dst)
theorem cc {t : Nat → TV S} {d : Option Tmp} {v : TV S} {x : Nat} (h : d ≠ some x) : putDst t d v x = t x := by
 cases d with
 | none => rfl
 | some d => exact aq _ _ (fun e => h (by rw [e]))
theorem eA {t : Nat → TV S} {d : Tmp} {v : TV S} : putDst t (some d) v d = v := ab _ _ _
theorem Trace.frame {ops : Array Oper} {nt : Nat} {c c1 : Nat → TV S} {ob ob1 : Nat → Option (Obj S)} {b b1 : Nat} {l : List Oper} {es : List (Eff S)} (h : Trace E ops nt c ob b l es c1 ob1 b1) : ∀ x, x ∉ Gi l → c1 x = c x := by
 induction h with
 | nil => intro x _; rfl
 | run hd hw ht he h ih =>
  intro x hx
  simp only [Gi, List.mem_filterMap] at hx ih
  rw [ih x (fun ⟨o, ho, e⟩ => hx ⟨o, by simp [ho], e⟩), cc]
  exact fun e => hx ⟨_, by simp, e⟩
 | skip hd hw h ih =>
  intro x hx
  simp only [Gi, List.mem_filterMap] at hx ih
  rw [ih x (fun ⟨o, ho, e⟩ => hx ⟨o, by simp [ho], e⟩), cc]
  exact fun e => hx ⟨_, by simp, e⟩
theorem Trace.quiet {ops : Array Oper} {nt : Nat} {c c1 : Nat → TV S} {ob ob1 : Nat → Option (Obj S)} {b b1 : Nat} {l : List Oper} {es : List (Eff S)} (h : Trace E ops nt c ob b l es c1 ob1 b1) (hq : ∀ e ∈ es, e.wr = []) : ob1 = ob ∧ b1 = b := by
 induction h with
 | nil => exact ⟨rfl, rfl⟩
 | @run c c' t ob ob' b b' o l e es hd hw ht he h ih =>
  obtain ⟨h1, h2⟩ := ih (fun e he => hq e (by simp [he]))
  have hwr := hq e (by simp)
  have hnx : e.nx = b := by
   rcases Nat.lt_or_ge b e.nx with h' | h'
   ·have := he.new b (Nat.le_refl _) h'
    rw [hwr] at this; simp at this
   ·have := he.nx; omega
  rw [hwr] at h1
  exact ⟨h1, by rw [h2, hnx]⟩
 | skip hd hw h ih => exact ih (fun e he => hq e (by simp [he]))
theorem Gj (l : List Oper) : ∀ (t : Nat → TV S) (x : Nat), x ∉ Gi l → ng t l x = t x := by
 induction l with
 | nil => intro t x _; rfl
 | cons o r ih =>
  intro t x hx
  simp only [Gi, List.mem_filterMap] at hx ih
  simp only [ng]
  rw [ih _ x (fun ⟨o', ho, e⟩ => hx ⟨o', by simp [ho], e⟩), cc]
  exact fun e => hx ⟨_, by simp, e⟩
theorem HX (l : List Oper) : ∀ (t : Nat → TV S) (x : Nat), t x = .dead → ng t l x = .dead := by
 induction l with
 | nil => intro t x h; exact h
 | cons o r ih =>
  intro t x h
  refine ih _ x ?_
  cases ho : o.dst with
  | none => exact h
  | some d =>
   by_cases e : x = d
   ·subst e; exact eA
   ·rw [cc (by intro e'; exact e (by cases e'; rfl))]; exact h
theorem Lx (l : List Oper) : ∀ (t : Nat → TV S) (x : Nat), x ∈ Gi l → ng t l x = .dead := by
 induction l with
 | nil => intro t x h; simp [Gi] at h
 | cons o r ih =>
  intro t x h
  simp only [ng]
  by_cases hr : x ∈ Gi r
  ·exact ih _ x hr
  ·have : o.dst = some x := by
    simp only [Gi, List.mem_filterMap] at h hr
    obtain ⟨o', ho', e⟩ := h
    rcases List.mem_cons.1 ho' with rfl | h'
    ·exact e
    ·exact absurd ⟨o', h', e⟩ hr
   exact HX r _ x (by rw [this]; exact eA)
theorem qa {d : Tmp} : ∀ {l g rest : List Oper} {p : Oper}, sF d l = some (g, p, rest) → l = g ++ p :: rest ∧ ∃ a b, p.op = .pick (.tmp d) a b
 | [], _, _, _, h => by simp [sF] at h
 | o :: r, g, rest, p, h => by
  unfold sF at h
  split at h
  ·rename_i c a b ho
   split at h
   ·rename_i hc
    subst hc
    cases h
    exact ⟨rfl, a, b, ho⟩
   ·obtain ⟨⟨g', p', r'⟩, h1, h2⟩ := Option.map_eq_some_iff.1 h
    cases h2
    obtain ⟨h3, h4⟩ := qa h1
    exact ⟨by rw [h3]; rfl, h4⟩
  ·obtain ⟨⟨g', p', r'⟩, h1, h2⟩ := Option.map_eq_some_iff.1 h
   cases h2
   obtain ⟨h3, h4⟩ := qa h1
   exact ⟨by rw [h3]; rfl, h4⟩
theorem wj {ops : Array Oper} {t c : Nat → TV S} {o : Oper} {b : Bool} (h : iK ops t o = some b) (ht : ∀ x, t x = c x ∨ t x = .dead) : iK ops c o = some b := by
 unfold iK at h ⊢
 split
 ·rename_i hg; rw [hg] at h; exact h
 ·rename_i j w hg
  rw [hg] at h
  simp only at h
  split
  ·rename_i hd; rw [hd] at h; exact h
  ·rename_i d hd
   rw [hd] at h
   simp only at h
   rcases ht d with e | e
   ·rw [← e]; exact h
   ·rw [e] at h; cases h
theorem wk {x : Option Bool} {b : Bool} (h : BF x b = true) : x = some b := by
 unfold BF at h
 split at h
 ·simp at h; rw [h]
 ·cases h
theorem CV {x : TV S} {b : Bool} (h : isBool x b = true) : x = .bool b := by
 unfold isBool at h
 split at h
 ·simp at h; rw [h]
 ·cases h
theorem CW {x : TV S} {b : Bool} (h : HR x = some b) : x = .bool b := by
 unfold HR at h
 split at h
 ·cases h; rfl
 ·cases h
def zp (es : List (Eff S)) (fs : List mE) : Prop := es.length = fs.length ∧ ∀ (i : Nat) (e : Eff S) (f : mE), es[i]? = some e → fs[i]? = some f → f.wr = e.wr.map (·.1) ∧ ∀ rd, f.rd = some rd → rd = e.rd
theorem zp.append {es es2 : List (Eff S)} {fs fs2 : List mE} (h : zp es fs) (h2 : zp es2 fs2) : zp (es ++ es2) (fs ++ fs2) := by
 refine ⟨by simp [h.1, h2.1], fun i e f he hf => ?_⟩
 by_cases hi : i < es.length
 ·rw [List.getElem?_append_left hi] at he
  rw [List.getElem?_append_left (by rw [← h.1]; exact hi)] at hf
  exact h.2 i e f he hf
 ·rw [List.getElem?_append_right (by omega)] at he
  rw [List.getElem?_append_right (by rw [← h.1]; omega)] at hf
  rw [← h.1] at hf
  exact h2.2 _ e f he hf
theorem zp.cons {es : List (Eff S)} {fs : List mE} {e : Eff S} {f : mE} (h1 : f.wr = e.wr.map (·.1)) (h2 : ∀ rd, f.rd = some rd → rd = e.rd) (h : zp es fs) : zp (e :: es) (f :: fs) := by
 refine zp.append (es := [e]) (fs := [f]) ⟨rfl, fun i e' f' he hf => ?_⟩ h
 cases i with
 | zero => simp at he hf; subst he; subst hf; exact ⟨h1, h2⟩
 | succ i => simp at he
theorem zp.top {es : List (Eff S)} {g : List Oper} (hl : es.length = g.length) (h : ∀ e ∈ es, e.wr = []) : zp es (g.map fun _ => mE.top) := by
 refine ⟨by simp [hl], fun i e f he hf => ?_⟩
 rw [List.getElem?_map] at hf
 obtain ⟨o, _, rfl⟩ := Option.map_eq_some_iff.1 hf
 exact ⟨by rw [h e (List.mem_of_getElem? he)]; rfl, fun rd h => by cases h⟩
theorem ui {ops : Array Oper} {nt : Nat} : ∀ (g : List Oper) (t c t1 : Nat → TV S) (ob : Nat → Option (Obj S)) (b : Nat), yN ops nt g t = some t1 → (∀ x, t x = c x ∨ t x = .dead) →
  ∃ es c1, Trace E ops nt c ob b g es c1 ob b ∧ (∀ x, t1 x = c1 x ∨ t1 x = .dead) ∧ (∀ e ∈ es, e.wr = []) ∧ ∀ e ∈ es, e.rd = []
 | [], t, c, t1, ob, b, h, ht => by
  simp only [yN, Option.some.injEq] at h
  subst h
  exact ⟨[], c, .nil _ _ _, ht, by simp, by simp⟩
 | o :: r, t, c, t1, ob, b, h, ht => by
  unfold yN at h
  split at h
  ·rename_i hw
   split at h
   ·rename_i hd
    have ht' : ∀ x, putDst t o.dst .undef x = putDst c o.dst .undef x ∨ putDst t o.dst .undef x = .dead := by
     intro x
     cases ho : o.dst with
     | none => exact ht x
     | some d =>
      by_cases e : x = d
      ·subst e; left; rw [eA, eA]
      ·have hne : (some d : Option Tmp) ≠ some x := by intro e'; exact e (by cases e'; rfl)
       rw [cc hne, cc hne]; exact ht x
    obtain ⟨es, c1, h1, h2, h3, h5⟩ := ui r _ (putDst c o.dst .undef) t1 ob b h ht'
    refine ⟨_, c1, .skip hd (wj hw ht) h1, h2, fun e he => ?_, fun e he => ?_⟩
    ·rcases List.mem_cons.1 he with rfl | h'
     ·rfl
     ·exact h3 e h'
    ·rcases List.mem_cons.1 he with rfl | h'
     ·rfl
     ·exact h5 e h'
   ·cases h
  ·cases h
theorem Fi (hE : eg E) (hf : wh E) {H : Hint S} {nt : Nat} {ops : Array Oper} : ∀ (n : Nat) (R : Type) (as : List (Nat × Bool)) (l : List Oper) (st : St S) (fs : List mE) (k : St S → List mE → Option R) (r : R) (c : Nat → TV S),
  CA E H nt ops n R as l st fs k = some r → (∀ x, st.t x = c x ∨ st.t x = .dead) →
  ∃ es c' st' nf, Trace E ops nt c st.o st.next l es c' st'.o st'.next ∧ k st' (nf.reverse ++ fs) = some r ∧ (∀ x, st'.t x = c' x ∨ st'.t x = .dead) ∧ zp es nf := by
 intro n
 induction n with
 | zero => intro R as l st fs k r c h; simp [CA] at h
 | succ n ih =>
  intro R as l st fs k r c h hc
  cases l with
  | nil =>
   simp only [CA] at h
   exact ⟨[], c, st, [], .nil _ _ _, h, hc, ⟨rfl, fun i e f he => by simp at he⟩⟩
  | cons o rest =>
   simp only [CA] at h
   split at h
   ·-- it runs
    split at h
    ·rename_i hchk
     simp only [Bool.and_eq_true] at hchk
     obtain ⟨hd, hw⟩ := hchk
     rw [Lt] at h
     obtain ⟨e, he, hok⟩ := Qw hE hf h
     have hc2 : ∀ x, (st.after o e).t x = putDst c o.dst e.v x ∨ (st.after o e).t x = .dead := by
      intro x
      show putDst st.t o.dst e.v x = _ ∨ putDst st.t o.dst e.v x = _
      cases ho : o.dst with
      | none => exact hc x
      | some d =>
       by_cases e : x = d
       ·subst e; left; rw [eA, eA]
       ·have hne : (some d : Option Tmp) ≠ some x := by intro e'; exact e (by cases e'; rfl)
        rw [cc hne, cc hne]; exact hc x
     obtain ⟨es, c', st', nf, h1, h2, h3, h4⟩ := ih R as rest (st.after o e) (e.foot :: fs) k r _ he hc2
     refine ⟨e :: es, c', st', e.foot :: nf, .run hd (wj (wk hw) hc) hc hok h1, by simpa using h2, h3, zp.cons rfl (fun rd h => by cases h; rfl) h4⟩
    ·cases h
   ·split at h
    ·cases h
    ·rename_i j w hg
     split at h
     ·cases h
     ·rename_i d hdj
      split at h
      ·split at h
       ·rename_i q hq
        have hcd : c d = .bool q := by
         rcases hc d with e | e
         ·rw [← e]; exact hq
         ·rw [hq] at e; cases e
        have hcs : ∀ b, b = q → ∀ x, (bM st.t d (.bool b)) x = c x ∨ (bM st.t d (.bool b)) x = .dead := by
         intro b hb x
         by_cases e : x = d
         ·subst e; left; rw [ab, hcd, hb]
         ·rw [aq _ _ e]; exact hc x
        split at h
        ·rename_i hqw
         exact ih R _ (o :: rest) ⟨bM st.t d (.bool w), st.o, st.next⟩ fs k r c h (hcs w (by simpa using (beq_iff_eq.1 hqw).symm))
        ·rename_i hqw
         split at h
         ·cases h
         ·rename_i g p rest' hfp
          obtain ⟨hl, _⟩ := qa hfp
          split at h
          ·rename_i t1 ht1
           obtain ⟨es1, c1, g1, g2, g3, g5⟩ := ui (E := E) g _ c t1 st.o st.next ht1 (hcs (!w) (by cases q <;> cases w <;> simp_all))
           obtain ⟨es2, c', st', nf, h1, h2, h3, h4⟩ := ih R as (p :: rest') ⟨t1, st.o, st.next⟩ _ k r c1 h g2
           refine ⟨es1 ++ es2, c', st', (g.map fun _ => (⟨some [], []⟩ : mE)) ++ nf, ?_, ?_, h3, ?_⟩
           ·rw [hl]; exact g1.append h1
           ·have : (List.map (fun _ => (⟨some [], []⟩ : mE)) g).reverse = List.map (fun _ => (⟨some [], []⟩ : mE)) g := by
             rw [List.map_const', List.reverse_replicate]
            rw [List.reverse_append, this]
            simpa using h2
           ·refine zp.append ⟨by simp [g1.length], fun i e f he hf' => ?_⟩ h4
            rw [List.getElem?_map] at hf'
            obtain ⟨_, _, rfl⟩ := Option.map_eq_some_iff.1 hf'
            have hm := List.mem_of_getElem? he
            exact ⟨by rw [g3 e hm]; rfl, fun rd h => by cases h; rw [g5 e hm]⟩
          ·cases h
       ·cases h
      ·split at h
       ·cases h
       rename_i g p rest' hfp
       obtain ⟨hl, pa, pb, hpop⟩ := qa hfp
       split at h
       ·rename_i q a b hq hpick
        split at h
        ·rename_i hdp
         have hab : a = pa ∧ b = pb := by
          simp only [Qo, hpop, Option.some.injEq, Prod.mk.injEq] at hpick
          exact ⟨hpick.1.symm, hpick.2.symm⟩
         obtain ⟨rfl, rfl⟩ := hab
         simp only [Option.bind_eq_some_iff] at h
         obtain ⟨res, hres, h⟩ := h
         have hcd : c d = .bool q := by
          rcases hc d with e | e
          ·rw [← e]; exact hq
          ·rw [hq] at e; cases e
         -- the group and its pick, either way
         have group : ∃ es1 c1 t1, Trace E ops nt c st.o st.next g es1 c1 st.o st.next ∧ (∀ e ∈ es1, e.wr = []) ∧ cw E p t1 st.o st.next ⟨.bool res, [], [], st.next⟩ ∧ iK ops c1 p = some true ∧ (∀ x, t1 x = c1 x ∨ t1 x = .dead) := by
          unfold ifB at hres
          split at hres
          ·rename_i hqw
           have hqw : q = w := by simpa using hqw
           subst hqw
           have hc2 : ∀ x, (bM st.t d (.bool q)) x = c x ∨ (bM st.t d (.bool q)) x = .dead := by
            intro x
            by_cases e : x = d
            ·subst e; left; rw [ab, hcd]
            ·rw [aq _ _ e]; exact hc x
           obtain ⟨es1, c1, st1, nf1, h1, h2, h3, h4⟩ := ih Bool _ g _ [] _ res c hres hc2
           split at h2
           ·rename_i hchk
            simp only [Bool.and_eq_true, List.append_nil] at hchk
            obtain ⟨hquiet, hwp, hbd⟩ := hchk
            have hqe : ∀ e ∈ es1, e.wr = [] := by
             intro e he
             obtain ⟨i, hi⟩ := List.mem_iff_getElem?.1 he
             obtain ⟨f, hf'⟩ : ∃ f, nf1[i]? = some f := ⟨_, List.getElem?_eq_getElem (by rw [← h4.1]; exact (List.getElem?_eq_some_iff.1 hi).1)⟩
             have hw1 := (h4.2 i e f hi hf').1
             have hq1 := List.all_eq_true.1 hquiet f (by rw [List.mem_reverse]; exact List.mem_of_getElem? hf')
             simp only [Qn, List.isEmpty_iff] at hq1
             rw [hq1] at hw1
             exact List.map_eq_nil_iff.1 hw1.symm
            obtain ⟨e1, e2⟩ := h1.quiet hqe
            refine ⟨es1, c1, st1.t, by rw [← e1, ← e2] ; rw [e1, e2]; exact (by rw [e1, e2] at h1; exact h1), hqe, ?_, wj (wk hwp) h3, h3⟩
            exact Ft hpop (CV hbd) (CW h2)
           ·cases h2
          ·rename_i hqw
           have hqw : q = !w := by cases q <;> cases w <;> simp_all
           split at hres
           ·rename_i t1 ht1
            have hc2 : ∀ x, (bM st.t d (.bool (!w))) x = c x ∨ (bM st.t d (.bool (!w))) x = .dead := by
             intro x
             by_cases e : x = d
             ·subst e; left; rw [ab, hcd, hqw]
             ·rw [aq _ _ e]; exact hc x
            obtain ⟨es1, c1, h1, h2, h3, _⟩ := ui (E := E) g _ c t1 st.o st.next ht1 hc2
            split at hres
            ·rename_i hchk
             simp only [Bool.and_eq_true] at hchk
             refine ⟨es1, c1, t1, h1, h3, ?_, wj (wk hchk.1) h2, h2⟩
             refine Ft hpop (CV hchk.2) ?_
             rw [← CW hres]
             cases w <;> rfl
            ·cases hres
           ·cases hres
         obtain ⟨es1, c1, t1, htr, hqe, hok, hwp, ht1⟩ := group
         have hc3 : ∀ x, putDst (ng st.t g) p.dst (.bool res) x = putDst c1 p.dst (.bool res) x ∨ putDst (ng st.t g) p.dst (.bool res) x = .dead := by
          intro x
          have base : ng st.t g x = c1 x ∨ ng st.t g x = .dead := by
           by_cases hx : x ∈ Gi g
           ·exact .inr (Lx g _ x hx)
           ·rw [Gj g _ x hx, htr.frame x hx]; exact hc x
          cases ho : p.dst with
          | none => exact base
          | some d' =>
           by_cases e : x = d'
           ·subst e; left; rw [eA, eA]
           ·have hne : (some d' : Option Tmp) ≠ some x := by intro e'; exact e (by cases e'; rfl)
            rw [cc hne, cc hne]; exact base
         obtain ⟨es2, c', st', nf, h1, h2, h3, h4⟩ := ih R as rest' ⟨putDst (ng st.t g) p.dst (.bool res), st.o, st.next⟩ _ k r _ h hc3
         refine ⟨es1 ++ ⟨.bool res, [], [], st.next⟩ :: es2, c', st', (g.map fun _ => mE.top) ++ ⟨some [], []⟩ :: nf, ?_, ?_, h3, ?_⟩
         ·rw [hl]
          exact htr.append (.run hdp hwp ht1 hok h1)
         ·have : (List.map (fun _ => mE.top) g).reverse = List.map (fun _ => mE.top) g := by
           rw [List.map_const', List.reverse_replicate]
          rw [List.reverse_append, List.reverse_cons, this]
          simpa using h2
         ·exact (zp.top htr.length hqe).append (zp.cons rfl (fun rd h => by cases h; rfl) h4)
        ·cases h
       ·cases h
end TE
