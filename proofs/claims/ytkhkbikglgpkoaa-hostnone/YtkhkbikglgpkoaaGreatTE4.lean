/- TE: each operation of the evaluator is the model's. -/
import Derived.Test.YtkhkbikglgpkoaaGreatTE3
namespace TE
open Go
variable {S : Sig}

/-! ### what a value is that stands for a known one -/
section inv
variable {E : Env S} {φ : Phi} {M : Mem} {v : Value}
theorem VR.bool {b : Bool} (h : VR E φ M (.bool b) v) : v = .bool b := by
  cases h with | pure c => cases c; rfl
theorem VR.int {k : IntKind} {n : Int} (h : VR E φ M (.int k n) v) : v = .int k n := by
  cases h with | pure c => cases c; rfl
theorem VR.str {s : List UInt8} (h : VR E φ M (.str s) v) : v = .string ⟨s.toArray⟩ := by
  cases h with | pure c => cases c; rfl
theorem VR.nilp (h : VR E φ M .nilp v) : v = .pointer none := by
  cases h with | pure c => cases c; rfl
theorem VR.nils (h : VR E φ M .nils v) : v = .slice none 0 0 := by
  cases h with | pure c => cases c; rfl
theorem VR.nilm (h : VR E φ M .nilm v) : v = .map none := by
  cases h with | pure c => cases c; rfl
theorem VR.nilf (h : VR E φ M .nilf v) : v = .nilFunc := by
  cases h with | pure c => cases c; rfl
theorem VR.nili (h : VR E φ M .nili v) : v = .nilIface := by
  cases h with | pure c => cases c; rfl
theorem VR.undef (h : VR E φ M .undef v) : v = .tuple #[] := by
  cases h with | pure c => cases c; rfl
theorem VR.ptr_inv {nm i k : Nat} (h : VR E φ M (.ptr nm i k) v) : ∃ g, φ nm = some g ∧ v = .pointer (some (at_ g.b (i * g.s + k))) := by
  cases h with
  | pure c => cases c
  | ptr hg => exact ⟨_, hg, rfl⟩
theorem VR.iptr_inv {c : S.K} {x : S.El c} {k : Nat} (h : VR E φ M (.iptr c x k) v) : ∃ b o, v = .pointer (some (at_ b (o + k))) ∧
    ∀ j tv, (E.enc c x)[j]? = some tv → ∃ u, M b (o + j) = some u ∧ CR E M tv u := by
  cases h with
  | pure c => cases c
  | iptr b o vs hM hC => exact ⟨b, o, rfl, fun j tv e => ⟨_, hM j tv e, hC j tv e⟩⟩
theorem VR.slw_inv {nm : Nat} (h : VR E φ M (.slw nm) v) : ∃ g, φ nm = some g ∧ SliceAt g 0 g.L v := by
  cases h with
  | pure c => cases c
  | slw hg hs => exact ⟨_, hg, hs⟩
theorem VR.rs_inv {nm off len : Nat} (h : VR E φ M (.rs nm off len) v) : ∃ g a cap, φ nm = some g ∧ v = .slice (some a) len cap ∧ len ≤ cap ∧ off + len ≤ g.L ∧ g.L ≤ off + cap ∧ (cap = 0 ∨ (a = at_ g.b (off * g.s) ∧ (off + cap) * g.s ≤ g.n)) := by
  cases h with
  | pure c => cases c
  | rs hg h1 h2 h3 h4 => exact ⟨_, _, _, hg, rfl, h1, h2, h3, h4⟩
theorem VR.sl_inv {nm off len : Nat} (h : VR E φ M (.sl nm off len) v) : ∃ g, φ nm = some g ∧ SliceAt g off len v := by
  cases h with
  | pure c => cases c
  | sl hg hs => exact ⟨_, hg, hs⟩
theorem VR.map_inv {nm : Nat} (h : VR E φ M (.map nm) v) : ∃ g, φ nm = some g ∧ v = .map (some g.b) := by
  cases h with
  | pure c => cases c
  | map hg => exact ⟨_, hg, rfl⟩
theorem VR.fn_inv {f : FuncId} {cap : List (TV S)} (h : VR E φ M (.fn f cap) v) : ∃ vs : Array Value, v = .func (.func f) #[] vs ∧ cap.length = vs.size ∧
    ∀ (i : Nat) (tv : TV S) (v : Value), cap[i]? = some tv → vs[i]? = some v → VR E φ M tv v := by
  cases h with
  | pure c => cases c
  | fn hl h => exact ⟨_, rfl, hl, h⟩
theorem VR.mv_inv {f : FuncId} {cap : List (TV S)} (h : VR E φ M (.mv f cap) v) : ∃ vs : Array Value, v = .func (.func f) vs #[] ∧ cap.length = vs.size ∧
    ∀ (i : Nat) (tv : TV S) (v : Value), cap[i]? = some tv → vs[i]? = some v → VR E φ M tv v := by
  cases h with
  | pure c => cases c
  | mv hl h => exact ⟨_, rfl, hl, h⟩
theorem VR.agg_inv {cs : List (TV S)} (h : VR E φ M (.agg cs) v) : ∃ vs : Array Value, v = .agg vs ∧ cs.length = vs.size ∧
    ∀ (i : Nat) (tv : TV S) (v : Value), cs[i]? = some tv → vs[i]? = some v → VR E φ M tv v := by
  cases h with
  | pure c => cases c
  | agg hl h => exact ⟨_, rfl, hl, h⟩
theorem VR.tup_inv {cs : List (TV S)} (h : VR E φ M (.tup cs) v) : ∃ vs : Array Value, v = .tuple vs ∧ cs.length = vs.size ∧
    ∀ (i : Nat) (tv : TV S) (v : Value), cs[i]? = some tv → vs[i]? = some v → VR E φ M tv v := by
  cases h with
  | pure c => cases c
  | tup hl h => exact ⟨_, rfl, hl, h⟩
theorem VR.tree_inv {c : S.K} {xs : List (S.El c)} (h : VR E φ M (.tree c xs) v) : ∃ a cap b o, v = .slice a xs.length cap ∧ xs.length ≤ cap ∧
    (cap = 0 ∨ a = some (at_ b o)) ∧ ∀ i x j tv, xs[i]? = some x → (E.enc c x)[j]? = some tv → ∃ u, M b (o + i * E.sz c + j) = some u ∧ CR E M tv u := by
  cases h with
  | pure c => cases c with
    | tree b o vs hcap ht ha hM hC => exact ⟨_, _, b, o, rfl, hcap, ha, fun i x j tv h1 h2 => ⟨_, hM i x j tv h1 h2, hC i x j tv h1 h2⟩⟩
theorem VR.tree_tight {c : S.K} {xs : List (S.El c)} (h : VR E φ M (.tree c xs) v) (ht : S.tight c = true) (hx : xs = []) : ∃ a, v = .slice a 0 0 := by
  cases h with
  | pure c => cases c with
    | tree b o vs hcap ht' ha hM hC => have := ht' ht hx; subst this; subst hx; exact ⟨_, rfl⟩
end inv

theorem VR.tree_mk {E : Env S} {φ : Phi} {M : Mem} {c : S.K} {xs : List (S.El c)} {a : Option Addr} {cap n : Nat} (b o : Nat) (hn : n = xs.length) (hcap : n ≤ cap) (ht : S.tight c = true → xs = [] → cap = 0) (ha : cap = 0 ∨ a = some (at_ b o))
    (h : ∀ i x j tv, xs[i]? = some x → (E.enc c x)[j]? = some tv → ∃ u, M b (o + i * E.sz c + j) = some u ∧ CR E M tv u) : VR E φ M (.tree c xs) (.slice a n cap) := by
  subst hn
  classical
  refine .pure (.tree b o (fun i j => (M b (o + i * E.sz c + j)).getD Go.undef) hcap ht ha ?_ ?_)
  · intro i x j tv h1 h2
    obtain ⟨u, hu, _⟩ := h i x j tv h1 h2
    simp [hu]
  · intro i x j tv h1 h2
    obtain ⟨u, hu, hc⟩ := h i x j tv h1 h2
    simpa [hu] using hc
theorem VR.iptr_mk {E : Env S} {φ : Phi} {M : Mem} {c : S.K} {x : S.El c} {k : Nat} {ad : Addr} (b o : Nat) (ha : ad = at_ b (o + k))
    (h : ∀ j tv, (E.enc c x)[j]? = some tv → ∃ u, M b (o + j) = some u ∧ CR E M tv u) : VR E φ M (.iptr c x k) (.pointer (some ad)) := by
  subst ha
  refine .iptr b o (fun j => (M b (o + j)).getD Go.undef) ?_ ?_
  · intro j tv h2
    obtain ⟨u, hu, _⟩ := h j tv h2
    simp [hu]
  · intro j tv h2
    obtain ⟨u, hu, hc⟩ := h j tv h2
    simpa [hu] using hc

theorem ofVal_VR (E : Env S) (φ : Phi) (M : Mem) (v : Value) : VR E φ M (ofVal v) v := by
  unfold ofVal
  split
  · exact .pure (.bool _)
  · exact .pure (.int _ _)
  · exact .pure (.str _)
  · exact .pure .nilp
  · exact .pure .nils
  · exact .pure .nilm
  · exact .pure .nilf
  · exact .pure .nili
  · exact .dead _
theorem constT_VR (E : Env S) (φ : Phi) (M : Mem) (v : Value) : VR E φ M (constT v) v := by
  unfold constT
  split
  · rename_i vs
    refine .agg (by simp) fun i tv u h1 h2 => ?_
    rw [List.getElem?_map, Array.getElem?_toList, h2] at h1
    simp only [Option.map_some, Option.some.injEq] at h1
    subst h1
    exact ofVal_VR E φ M u
  · exact ofVal_VR E φ M v

section
variable {E : Env S} {B : Base} {nt : Nat} {t : Nat → TV S} {ob : Nat → Option (Obj S)} {a : Act} {w : World} {φ : Phi} {M : Mem}

theorem Rel.ev (h : Rel E B nt t ob a w φ M) (x : Operand) : VR E φ M (ev t x) (a.eval x) := by
  cases x with
  | tmp i => exact h.slots i
  | const v => exact constT_VR E φ M v
  | func f => exact .fn (vs := #[]) rfl (fun i tv v h => by simp at h)
  | global g => exact .dead _

/-- The slot written, memory as it may have become. -/
theorem Rel.put (h : Rel E B nt t ob a w φ M) {dst : Option Tmp} (hd : dstOk nt dst = true) {tv : TV S} {v : Value} {ob' : Nat → Option (Obj S)} {w' : World} {φ' : Phi} {M' : Mem}
    (hφ : φ.le φ') (hM : M.le M') (hv : VR E φ' M' tv v) (hw : RelW E B ob' w' φ' M') : Rel E B nt (putDst t dst tv) ob' (a.put dst v) w' φ' M' := by
  constructor
  · intro i
    cases dst with
    | none => exact (h.slots i).mono hφ hM
    | some d =>
      have hlt : d < nt := by simpa [dstOk] using hd
      have hsz : d < a.tmps.size := Nat.lt_of_lt_of_le hlt h.nt
      simp only [putDst, Act.put]
      by_cases e : i = d
      · subst e
        rw [setF_self]
        have : (a.tmps.setIfInBounds i v).getD i undef = v := by
          rw [Array.getD_eq_getD_getElem?, Array.getElem?_setIfInBounds_self_of_lt hsz]; rfl
        rw [this]; exact hv
      · rw [setF_ne _ _ e]
        have : (a.tmps.setIfInBounds d v).getD i undef = a.tmps.getD i undef := by
          rw [Array.getD_eq_getD_getElem?, Array.getElem?_setIfInBounds_ne (Ne.symm e), Array.getD_eq_getD_getElem?]
        rw [this]; exact (h.slots i).mono hφ hM
  · cases dst with
    | none => exact h.nt
    | some d => simpa [Act.put] using h.nt
  · cases dst with
    | none => exact h.defers
    | some d => exact h.defers
  · exact hw
end

/-- **What an operation of the evaluator is worth**: in every state that agrees with the one at hand on the operation's operands and on the objects that it reads, the model's operation does it. -/
structure OpOK (E : Env S) (o : Oper) (t : Nat → TV S) (ob : Nat → Option (Obj S)) (base : Nat) (e : Eff S) : Prop where
  nx : base ≤ e.nx
  wr : ∀ p ∈ e.wr, (base ≤ p.1 ∧ p.1 < e.nx) ∨ (p.1 ∈ e.rd ∧ ob p.1 ≠ none)
  new : ∀ n, base ≤ n → n < e.nx → n ∈ e.wr.map (·.1)
  run : ∀ (B : Base) (nt : Nat) (t' : Nat → TV S) (ob' : Nat → Option (Obj S)) (a : Act) (w : World) (φ : Phi) (M : Mem) (Q : Exit → Act → World → Prop),
    dstOk nt o.dst = true → (∀ x ∈ o.op.operands, VR E φ M (ev t x) (a.eval x)) → (∀ n ∈ e.rd, ob' n = ob n) → (∀ n, base ≤ n → n < e.nx → ob' n = none) → B.m ≤ base →
    Rel E B nt t' ob' a w φ M →
    o.upon E.P a (fun a' w' => ∃ φ' M', Rel E B nt (putDst t' o.dst e.v) (setAll ob' e.wr) a' w' φ' M') Q ((execOp a.eval o).run E.P w)

theorem upon_of_value {P : Program} {o : Oper} {a : Act} {next : Act → World → Prop} {Q : Exit → Act → World → Prop} {r : Result Next} {v : Value} {w' : World}
    (h : r = .ok (.value v) w') (hn : next (a.put o.dst v) w') : o.upon P a next Q r := by subst h; exact hn
theorem upon_of_skip {P : Program} {o : Oper} {a : Act} {next : Act → World → Prop} {Q : Exit → Act → World → Prop} {r : Result Next} {w' : World}
    (h : r = .ok .skip w') (hn : next (a.put o.dst Go.undef) w') : o.upon P a next Q r := by subst h; exact hn

/-- An operation that makes a value and leaves memory alone. -/
theorem OpOK.value {E : Env S} {o : Oper} {t : Nat → TV S} {ob : Nat → Option (Obj S)} {base : Nat} {tv : TV S} {rd : List Nat}
    (h : ∀ (B : Base) (nt : Nat) (t' : Nat → TV S) (ob' : Nat → Option (Obj S)) (a : Act) (w : World) (φ : Phi) (M : Mem),
      (∀ x ∈ o.op.operands, VR E φ M (ev t x) (a.eval x)) → (∀ n ∈ rd, ob' n = ob n) → RelW E B ob' w φ M →
      ∃ v, (execOp a.eval o).run E.P w = .ok (.value v) w ∧ VR E φ M tv v) : OpOK E o t ob base ⟨tv, rd, [], base⟩ := by
  refine ⟨Nat.le_refl _, by simp, fun n h1 h2 => ?_, ?_⟩
  · simp only at h2; omega
  · intro B nt t' ob' a w φ M Q hd hev hrd _ _ hrel
    obtain ⟨v, hrun, hv⟩ := h B nt t' ob' a w φ M hev hrd hrel.mem
    exact upon_of_value hrun ⟨φ, M, hrel.put hd (Phi.le_refl _) (Mem.le_refl _) hv hrel.mem⟩

theorem run_value {P : Program} {s : Sem Value} {w w' : World} {v : Value} (h : s.run P w = .ok v w') : (do pure (Next.value (← s)) : Sem Next).run P w = .ok (.value v) w' := by
  rw [run_bind, h]; rfl
theorem run_skip {P : Program} {s : Sem Unit} {w w' : World} (h : s.run P w = .ok () w') : (do s; pure Next.skip : Sem Next).run P w = .ok .skip w' := by
  rw [run_bind, h]; rfl
end TE
