/- TE: operations that make a value, as the evaluator meets them. -/
import Derived.Test.YtkhkbikglgpkoaaGreatTE5
namespace TE
open Go
variable {S : Sig} {E : Env S}

/-- The value that stands at this key, and its place, among a map's entries. -/
def findAt (q : List Sc) : List (List Sc) → List MapEntry → Nat → Option (Nat × Value)
  | k :: ks, e :: es, i => if k = q then some (i, e.val) else findAt q ks es (i + 1)
  | _, _, _ => none
/-- What the model does with keys of a type. -/
structure KLaw (P : Program) (kt : TypeId) (ag : Bool) (sh : List ScK) : Prop where
  check : ∀ (w : World) (em : Bool) (k : List Sc), shaped sh k = true → (Instr.checkKey em 10000 kt (keyVal ag k)).run P w = .ok () w
  find : ∀ (w : World) (q : List Sc), shaped sh q = true → ∀ (es : List MapEntry) (ks : List (List Sc)), es.map (·.key) = ks.map (keyVal ag) → (∀ k ∈ ks, shaped sh k = true) →
    (Instr.findKey kt (keyVal ag q) es).run P w = .ok (findAt q ks es 0) w
  stays : ∀ (w : World) (k : List Sc), shaped sh k = true → (Instr.keyThatStays (keyVal ag k) (keyVal ag k)).run P w = .ok (keyVal ag k) w

/-- A cell that a deep row owns holds a row, and one that may have room behind it though it is empty. -/
structure SubOk (E : Env S) : Prop where
  tree : ∀ c x j, j < E.sz c → E.sub c j = true → ∃ d ys, (E.enc c x)[j]? = some (.tree d ys) ∧ S.tight d = false
  dec : ∀ c cs x j d ys, E.dec c cs = some x → E.sub c j = true → cs[j]? = some (.tree d ys) → (E.enc c x)[j]? = some (.tree d ys)
  decN : ∀ c cs x j, E.dec c cs = some x → E.sub c j = true → cs[j]? = some .nils → ∃ d, (E.enc c x)[j]? = some (.tree d [])
/-- What the types of rows' elements are, and what their plain values stand for. -/
structure EnvOk (E : Env S) : Prop extends EncOk E where
  mixed : E.P.follows .mixedOrders = true
  size : ∀ t c, E.code t = some c → ∃ i, E.P.info? t = some i ∧ i.size = E.sz c ∧ i.bytes ≤ 2 ^ 11 ∧ ∃ z, i.zero = some z ∧ z.cells.size = E.sz c
  pure : ∀ c x tv, tv ∈ E.enc c x → aliveCell tv = true
  dec : ∀ c cs x (M : Mem) (i : Nat) (tv : TV S) (v : Value), E.dec c cs = some x → cs[i]? = some tv → CR E M tv v → ∃ tv', (E.enc c x)[i]? = some tv' ∧ CR E M tv' v
  szle : ∀ c, E.sz c ≤ 2 ^ 11
  decLen : ∀ c cs x, E.dec c cs = some x → cs.length = E.sz c
  keys : ∀ kt ag sh, E.keyTy kt = some (ag, sh) → KLaw E.P kt ag sh
  sub : SubOk E

theorem tyOf_agg {P : Program} {t : TypeId} {i : TypeInfo} {d : TypeDesc} (h1 : P.info? t = some i) (h2 : P.underlying t = some d) : tyOf P t = some (isAggD d, i.size) := by
  simp [tyOf, h1, h2]

section
variable {R : Type} {k : Eff S → Option R} {r : R} {t : Nat → TV S} {ob : Nat → Option (Obj S)} {base : Nat} {o : Oper}

theorem ok_move {x : Operand} (ho : o.op = .move x ∨ o.op = .assign x) : OpOK E o t ob base ⟨ev t x, [], [], base⟩ := by
  refine OpOK.value fun B nt t' ob' a w φ M hv _ _ => ⟨a.eval x, ?_, ?_⟩
  · obtain ⟨dst, op, ty, pos, after, guard⟩ := o
    rcases ho with rfl | rfl <;> rfl
  · refine hv x ?_
    rcases ho with e | e <;> rw [e] <;> simp [Op.operands]

theorem ok_pick {c x y : Operand} {q p s : Bool} (ho : o.op = .pick c x y) (hc : ev t c = .bool q) (hx : ev t x = .bool p) (hy : ev t y = .bool s) : OpOK E o t ob base ⟨.bool (bif q then p else s), [], [], base⟩ := by
  refine OpOK.value fun B nt t' ob' a w φ M hv _ _ => ⟨.bool (bif q then p else s), ?_, .pure (.bool _)⟩
  obtain ⟨dst, op, ty, pos, after, guard⟩ := o
  subst ho
  have h1 := hv c (by simp [Op.operands])
  have h2 := hv x (by simp [Op.operands])
  have h3 := hv y (by simp [Op.operands])
  rw [hc] at h1; rw [hx] at h2; rw [hy] at h3
  have e1 := h1.bool; have e2 := h2.bool; have e3 := h3.bool
  simp only [execOp, e1, e2, e3]
  cases q <;> rfl

theorem ok_pick' {c x y : Operand} {q s : Bool} (ho : o.op = .pick c x y) (hc : ev t c = .bool q) (hx : ev t (bif q then x else y) = .bool s) : OpOK E o t ob base ⟨.bool s, [], [], base⟩ := by
  refine OpOK.value fun B nt t' ob' a w φ M hv _ _ => ⟨.bool s, ?_, .pure (.bool _)⟩
  obtain ⟨dst, op, ty, pos, after, guard⟩ := o
  subst ho
  have h1 := hv c (by simp [Op.operands])
  have h2 := hv (bif q then x else y) (by cases q <;> simp [Op.operands])
  rw [hc] at h1; rw [hx] at h2
  have e1 := h1.bool; have e2 := h2.bool
  simp only [execOp, e1]
  cases q
  · simp only [cond_false] at e2; rw [← e2]; rfl
  · simp only [cond_true] at e2; rw [← e2]; rfl

theorem ok_nilCheck {x : Operand} (ho : o.op = .nilCheck x) (hx : (∃ n i j, ev t x = .ptr n i j) ∨ ∃ c y j, ev t x = .iptr c y j) : OpOK E o t ob base ⟨ev t x, [], [], base⟩ := by
  refine OpOK.value fun B nt t' ob' a w φ M hv _ _ => ⟨a.eval x, ?_, hv x (by rw [ho]; simp [Op.operands])⟩
  obtain ⟨dst, op, ty, pos, after, guard⟩ := o
  subst ho
  have h1 := hv x (by simp [Op.operands])
  rcases hx with ⟨n, i, j, e⟩ | ⟨c, y, j, e⟩
  · rw [e] at h1
    obtain ⟨g, _, e1⟩ := h1.ptr_inv
    simp only [execOp, e1]; rfl
  · rw [e] at h1
    obtain ⟨b, of, e1, _⟩ := h1.iptr_inv
    simp only [execOp, e1]; rfl

theorem ok_binOp {op : BinOp} {xt yt : TypeId} {x y : Operand} (ho : o.op = .binOp op xt x y yt) (h : binEvalK E.P op xt (ev t x) (ev t y) (fun v => k ⟨v, [], [], base⟩) = some r) :
    ∃ e, k e = some r ∧ OpOK E o t ob base e := by
  obtain ⟨tv, hk, hrun⟩ := binEval_ok h
  refine ⟨_, hk, OpOK.value fun B nt t' ob' a w φ M hv _ _ => ?_⟩
  obtain ⟨z, hz, hzr⟩ := hrun φ M (a.eval x) (a.eval y) x y w (hv x (by rw [ho]; simp [Op.operands])) (hv y (by rw [ho]; simp [Op.operands]))
  refine ⟨z, ?_, hzr⟩
  obtain ⟨dst, op', ty, pos, after, guard⟩ := o
  subst ho
  exact run_value hz

theorem ok_unOp {op : UnOp} {xt : TypeId} {x : Operand} {tv : TV S} (ho : o.op = .unOp op xt x) (h : unEval op (ev t x) = some tv) : OpOK E o t ob base ⟨tv, [], [], base⟩ := by
  refine OpOK.value fun B nt t' ob' a w φ M hv _ _ => ?_
  have h1 := hv x (by rw [ho]; simp [Op.operands])
  obtain ⟨dst, op', ty, pos, after, guard⟩ := o
  subst ho
  unfold unEval at h
  split at h
  · rename_i k n hx
    rw [hx] at h1
    cases h
    have e1 := h1.int
    refine ⟨_, ?_, .pure (.int _ _)⟩
    simp only [execOp, e1]; rfl
  · rename_i b hx
    rw [hx] at h1
    cases h
    have e1 := h1.bool
    refine ⟨_, ?_, .pure (.bool _)⟩
    simp only [execOp, e1]; rfl
  · rename_i k n hx
    rw [hx] at h1
    simp only [intOp, Option.some.injEq] at h
    subst h
    have e1 := h1.int
    refine ⟨_, ?_, .pure (.int _ _)⟩
    simp only [execOp, e1]; rfl
  · cases h

theorem ok_convert {s d : TypeId} {x : Operand} {tv : TV S} (ho : o.op = .convert s d x) (h : convEval E s d (ev t x) = some tv) : OpOK E o t ob base ⟨tv, [], [], base⟩ := by
  refine OpOK.value fun B nt t' ob' a w φ M hv _ _ => ?_
  have h1 := hv x (by rw [ho]; simp [Op.operands])
  obtain ⟨dst, op', ty, pos, after, guard⟩ := o
  subst ho
  unfold convEval at h
  split at h
  · rename_i sd k k' n hs hd hx
    rw [hx] at h1
    cases h
    have e1 := h1.int
    refine ⟨_, run_value (v := .int k (k.wrap n)) ?_, .pure (.int _ _)⟩
    rw [e1]
    simp only [convert, run_bind, run_underlying s w hs, run_underlying d w hd]
    rfl
  · rename_i sd l hs hd hx
    rw [hx] at h1
    cases h
    have e1 := h1.str
    refine ⟨_, run_value (v := .string ⟨l.toArray⟩) ?_, .pure (.str _)⟩
    rw [e1]
    simp only [convert, run_bind, run_underlying s w hs, run_underlying d w hd]
    rfl
  · cases h

theorem run_sureAddr {P : Program} (a : Addr) (w : World) : (Instr.sureAddr (.pointer (some a))).run P w = .ok a w := rfl
theorem run_asAgg {P : Program} (vs : Array Value) (w : World) : (asAgg (.agg vs)).run P w = .ok vs w := rfl
theorem run_asIntOf {P : Program} (q : IntKind) (n : Int) (w : World) : (asIntOf (.int q n)).run P w = .ok (q, n) w := rfl
theorem fieldOff_spec {P : Program} {st : TypeId} {f off : Nat} {ft : TypeId} (h : fieldOff P st f = some (off, ft)) :
    ∃ fs fd i, P.underlying st = some (.struct fs) ∧ fs[f]? = some fd ∧ P.info? fd.type = some i ∧ i.size ≠ 0 ∧ fd.offset = off ∧ fd.type = ft := by
  unfold fieldOff at h
  split at h
  · rename_i fs hfs
    split at h
    · rename_i fd hfd
      split at h
      · rename_i i hi
        split at h
        · cases h
        · rename_i hz
          cases h
          exact ⟨fs, fd, i, hfs, hfd, hi, hz, rfl, rfl⟩
      · cases h
    · cases h
  · cases h

theorem run_fieldAt {P : Program} {st : TypeId} {f off b q : Nat} {ft : TypeId} (w : World) (h : fieldOff P st f = some (off, ft)) :
    (Instr.fieldAt st (.pointer (some (at_ b q))) f).run P w = .ok (.pointer (some (at_ b (q + off)))) w := by
  obtain ⟨fs, fd, i, h1, h2, h3, h4, h5, _⟩ := fieldOff_spec h
  unfold Instr.fieldAt
  rw [run_bind, run_underlying st w h1]
  simp only [h2]
  rw [run_bind, run_sureAddr]
  simp only []
  rw [run_bind]
  unfold fieldPlace
  rw [run_bind, run_sizeOf fd.type w h3]
  simp only [if_neg h4, at_add, h5]
  rfl

theorem ok_fieldAddr {st : TypeId} {x : Operand} {f off : Nat} {ft : TypeId} {tv : TV S} (ho : o.op = .fieldAddr st x f) (h : fieldOff E.P st f = some (off, ft))
    (hx : (∃ n i j, ev t x = .ptr n i j ∧ tv = .ptr n i (j + off)) ∨ ∃ c y j, ev t x = .iptr c y j ∧ tv = .iptr c y (j + off)) : OpOK E o t ob base ⟨tv, [], [], base⟩ := by
  refine OpOK.value fun B nt t' ob' a w φ M hv _ _ => ?_
  have h1 := hv x (by rw [ho]; simp [Op.operands])
  obtain ⟨dst, op', ty, pos, after, guard⟩ := o
  subst ho
  rcases hx with ⟨n, i, j, e, rfl⟩ | ⟨c, y, j, e, rfl⟩
  · rw [e] at h1
    obtain ⟨g, hg, e1⟩ := h1.ptr_inv
    refine ⟨_, run_value (by rw [e1]; exact run_fieldAt w h), ?_⟩
    rw [show i * g.s + j + off = i * g.s + (j + off) by omega]
    exact .ptr hg
  · rw [e] at h1
    obtain ⟨b, of, e1, hM⟩ := h1.iptr_inv
    refine ⟨_, run_value (by rw [e1]; exact run_fieldAt w h), .iptr_mk b of (by rw [show of + j + off = of + (j + off) by omega]) hM⟩

theorem ok_field {st : TypeId} {x : Operand} {f off n : Nat} {ft : TypeId} {ag : Bool} {cs : List (TV S)} {tv : TV S} (ho : o.op = .field st x f) (h : fieldOff E.P st f = some (off, ft))
    (hx : ev t x = .agg cs) (ht : tyOf E.P ft = some (ag, n)) (hc : takeCells ag n off cs = some tv) : OpOK E o t ob base ⟨tv, [], [], base⟩ := by
  refine OpOK.value fun B nt t' ob' a w φ M hv _ _ => ?_
  have h1 := hv x (by rw [ho]; simp [Op.operands])
  obtain ⟨dst, op', ty, pos, after, guard⟩ := o
  subst ho
  rw [hx] at h1
  obtain ⟨vs, e1, hl, hvs⟩ := h1.agg_inv
  obtain ⟨fs, fd, i, g1, g2, g3, g4, g5, g6⟩ := fieldOff_spec h
  obtain ⟨v, hrun, hvr⟩ := run_part (E := E) w ht hc hl hvs
  refine ⟨v, run_value ?_, hvr⟩
  unfold Instr.field
  rw [run_bind, run_underlying st w g1]
  simp only [g2, e1]
  rw [run_bind, run_asAgg]
  simp only [g5, g6]
  exact hrun

theorem ok_extract {x : Operand} {i : Nat} {vs : List (TV S)} {tv : TV S} (ho : o.op = .extract x i) (hx : ev t x = .tup vs) (hi : vs[i]? = some tv) : OpOK E o t ob base ⟨tv, [], [], base⟩ := by
  refine OpOK.value fun B nt t' ob' a w φ M hv _ _ => ?_
  have h1 := hv x (by rw [ho]; simp [Op.operands])
  obtain ⟨dst, op', ty, pos, after, guard⟩ := o
  subst ho
  rw [hx] at h1
  obtain ⟨us, e1, hl, hvs⟩ := h1.tup_inv
  have hlt : i < us.size := by rw [← hl]; exact (List.getElem?_eq_some_iff.1 hi).1
  have hu : us[i]? = some us[i] := Array.getElem?_eq_getElem hlt
  refine ⟨us[i], run_value ?_, hvs i tv _ hi hu⟩
  rw [e1]
  simp only [Instr.extract, hu]
  rfl

theorem ok_makeFunc {f : FuncId} {first cap : Array Operand} (ho : o.op = .makeFunc (.func f) first cap) (hf : first.size = 0) : OpOK E o t ob base ⟨.fn f (cap.toList.map (ev t)), [], [], base⟩ := by
  refine OpOK.value fun B nt t' ob' a w φ M hv _ _ => ?_
  have h1 : ∀ x ∈ cap, VR E φ M (ev t x) (a.eval x) := fun x hx => hv x (by rw [ho]; simp [Op.operands, hx])
  obtain ⟨dst, op', ty, pos, after, guard⟩ := o
  subst ho
  refine ⟨.func (.func f) #[] (cap.map a.eval), run_value ?_, .fn (by simp) ?_⟩
  · have : first = #[] := Array.eq_empty_of_size_eq_zero hf
    subst this
    simp [Instr.makeFunc]
  · intro i tv v h2 h3
    have hlt : i < cap.size := by have := (List.getElem?_eq_some_iff.1 h2).1; simpa using this
    simp [hlt] at h2 h3
    subst h2; subst h3
    exact h1 _ (by simp)

theorem ok_makeMv {f : FuncId} {first cap : Array Operand} (ho : o.op = .makeFunc (.func f) first cap) (hf : cap.size = 0) : OpOK E o t ob base ⟨.mv f (first.toList.map (ev t)), [], [], base⟩ := by
  refine OpOK.value fun B nt t' ob' a w φ M hv _ _ => ?_
  have h1 : ∀ x ∈ first, VR E φ M (ev t x) (a.eval x) := fun x hx => hv x (by rw [ho]; simp [Op.operands, hx])
  obtain ⟨dst, op', ty, pos, after, guard⟩ := o
  subst ho
  refine ⟨.func (.func f) (first.map a.eval) #[], run_value ?_, .mv (by simp) ?_⟩
  · have : cap = #[] := Array.eq_empty_of_size_eq_zero hf
    subst this
    simp [Instr.makeFunc]
  · intro i tv v h2 h3
    have hlt : i < first.size := by have := (List.getElem?_eq_some_iff.1 h2).1; simpa using this
    simp [hlt] at h2 h3
    subst h2; subst h3
    exact h1 _ (by simp)

/-- The cells behind an address. -/
theorem behind_box {B : Base} {w : World} {φ : Phi} {M : Mem} {nm i k' : Nat} {cs : List (TV S)} {u : Value} (hm : RelW E B ob w φ M) (ho : ob nm = some (.box cs)) (hi : i = 0) (hu : VR E φ M (.ptr nm i k') u) :
    ∃ b off, u = .pointer (some (at_ b off)) ∧ ∀ j x, cs[k' + j]? = some x → ∃ v, w.cell? (at_ b (off + j)) = some v ∧ VR E φ M x v := by
  obtain ⟨g, hg, e⟩ := hu.ptr_inv
  obtain ⟨g', hg', hcs⟩ := hm.objs nm _ ho
  rw [hg] at hg'; cases hg'
  refine ⟨_, _, e, fun j x hx => ?_⟩
  obtain ⟨v, hv, _, hvr⟩ := hcs (k' + j) x hx
  exact ⟨v, by rw [hi]; simpa using hv, hvr⟩
theorem behind_row {B : Base} {w : World} {φ : Phi} {M : Mem} {nm i k' : Nat} {c : S.K} {xs : List (S.El c)} {m : RM} {x : S.El c} {u : Value} (hm : RelW E B ob w φ M) (ho : ob nm = some (.row c xs m)) (hi : xs[i]? = some x)
    (hu : VR E φ M (.ptr nm i k') u) : ∃ b off, u = .pointer (some (at_ b off)) ∧ ∀ j y, (E.enc c x)[k' + j]? = some y → ∃ v, w.cell? (at_ b (off + j)) = some v ∧ VR E φ M y v := by
  obtain ⟨g, hg, e⟩ := hu.ptr_inv
  obtain ⟨g', hg', hL, hs, _, hrow⟩ := hm.objs nm _ ho
  rw [hg] at hg'; cases hg'
  refine ⟨_, _, e, fun j y hy => ?_⟩
  rw [show i * g.s + k' + j = i * g.s + (k' + j) by omega]
  cases m with
  | own =>
    obtain ⟨v, hv, hc⟩ := hrow.2 i x _ y hi hy
    exact ⟨v, hv, .pure hc⟩
  | app =>
    obtain ⟨v, hv, hc⟩ := hrow.2.1 i x _ y hi hy
    exact ⟨v, hm.mval _ _ _ hv, .pure hc⟩
  | ro =>
    obtain ⟨v, hv, hc⟩ := hrow i x _ y hi hy
    exact ⟨v, hm.mval _ _ _ hv, .pure hc⟩
theorem behind_iptr {B : Base} {w : World} {φ : Phi} {M : Mem} {k' : Nat} {c : S.K} {x : S.El c} {u : Value} (hm : RelW E B ob w φ M) (hu : VR E φ M (.iptr c x k') u) :
    ∃ b off, u = .pointer (some (at_ b off)) ∧ ∀ j y, (E.enc c x)[k' + j]? = some y → ∃ v, w.cell? (at_ b (off + j)) = some v ∧ VR E φ M y v := by
  obtain ⟨b, of, e, hM⟩ := hu.iptr_inv
  refine ⟨_, _, e, fun j y hy => ?_⟩
  obtain ⟨v, hv, hc⟩ := hM _ y hy
  exact ⟨v, by rw [show of + k' + j = of + (k' + j) by omega]; exact hm.mval _ _ _ hv, .pure hc⟩

theorem ok_load {ty : TypeId} {x : Operand} {ag : Bool} {n k' : Nat} {cs : List (TV S)} {tv : TV S} {rd : List Nat} (ho : o.op = .load ty x) (ht : tyOf E.P ty = some (ag, n)) (hc : takeCells ag n k' cs = some tv)
    (hb : ∀ (B : Base) (ob' : Nat → Option (Obj S)) (w : World) (φ : Phi) (M : Mem) (u : Value), (∀ n ∈ rd, ob' n = ob n) → RelW E B ob' w φ M → VR E φ M (ev t x) u →
      ∃ b off, u = .pointer (some (at_ b off)) ∧ ∀ j y, cs[k' + j]? = some y → ∃ v, w.cell? (at_ b (off + j)) = some v ∧ VR E φ M y v) : OpOK E o t ob base ⟨tv, rd, [], base⟩ := by
  refine OpOK.value fun B nt t' ob' a w φ M hv hrd hm => ?_
  have h1 := hv x (by rw [ho]; simp [Op.operands])
  obtain ⟨dst, op', ty', pos, after, guard⟩ := o
  subst ho
  obtain ⟨b, off, e, hcs⟩ := hb B ob' w φ M _ hrd hm h1
  obtain ⟨v, hrun, hvr⟩ := run_loadVar (E := E) ht hc hcs
  refine ⟨v, run_value ?_, hvr⟩
  rw [e]
  unfold Instr.loadAt
  rw [run_bind, run_sureAddr]
  exact hrun

theorem run_index_slice {P : Program} {ty e : TypeId} {i : TypeInfo} {ad : Addr} {len cap : Nat} {q : IntKind} {n : Int} (w : World) (hu : P.underlying ty = some (.slice e)) (hi : P.info? e = some i) (h0 : 0 ≤ n) (h1 : n < len) :
    (Instr.indexAt ty (.slice (some ad) len cap) (.int q n)).run P w = .ok (.pointer (some (ad.add (n.toNat * i.size)))) w := by
  unfold Instr.indexAt
  simp only [run_bind, run_asIntOf, run_underlying ty w hu, run_pure, h0, h1, and_self, if_true, run_sizeOf e w hi]
theorem run_indexAddr {P : Program} {ty e : TypeId} {i : TypeInfo} {b off len cap : Nat} {q : IntKind} {n : Int} (w : World) (hu : P.underlying ty = some (.slice e)) (hi : P.info? e = some i) (h0 : 0 ≤ n) (h1 : n < len) :
    (Instr.indexAt ty (.slice (some (at_ b off)) len cap) (.int q n)).run P w = .ok (.pointer (some (at_ b (off + n.toNat * i.size)))) w := by
  rw [run_index_slice w hu hi h0 h1, at_add]
end
end TE
