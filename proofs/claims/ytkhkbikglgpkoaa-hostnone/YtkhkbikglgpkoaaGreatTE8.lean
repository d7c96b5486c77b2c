/- TE: pieces of slices and strings; literals of structs. -/
import Derived.Test.YtkhkbikglgpkoaaGreatTE7
import Derived.Laws.Sem
namespace TE
open Go
variable {S : Sig} {E : Env S}
section
variable {R : Type} {k : Eff S → Option R} {r : R} {t : Nat → TV S} {ob : Nat → Option (Obj S)} {base : Nat} {o : Oper}

/-- What a bound of a cut is. -/
def BoundIs (x : Option Value) (d n : Int) : Prop := (x = none ∧ n = d) ∨ ∃ q, x = some (.int q n)
theorem optInt_spec {φ : Phi} {M : Mem} {x : Option (TV S)} {u : Option Value} {d n : Int} (h : optInt x d = some n) (hu : ∀ y, x = some y → ∃ v, u = some v ∧ VR E φ M y v) (hn : x = none → u = none) : BoundIs u d n := by
  unfold optInt at h
  split at h
  · cases h; exact .inl ⟨hn rfl, rfl⟩
  · rename_i q m
    cases h
    obtain ⟨v, hv, hvr⟩ := hu _ rfl
    exact .inr ⟨q, by rw [hv, hvr.int]⟩
  · cases h
theorem run_sliceBound {P : Program} {v : Value} {q : IntKind} {n : Int} {y : Nat} (c : BoundsCode) (w : World) (hv : v = .int q n) (h0 : 0 ≤ n) (h1 : n ≤ y) : (Instr.sliceBound v y c).run P w = .ok n.toNat w := by
  subst hv
  unfold Instr.sliceBound
  simp only [run_bind, run_asIntOf, h0, h1, and_self, if_true, run_pure]
theorem run_sliceBounds {P : Program} {lo hi : Option Value} {l h : Int} {len cap : Nat} (isS : Bool) (w : World) (hl : BoundIs lo 0 l) (hh : BoundIs hi len h) (h0 : 0 ≤ l) (h1 : l ≤ h) (h2 : h ≤ len) (h3 : len ≤ cap) :
    (Instr.sliceBounds isS len cap lo hi none).run P w = .ok (l.toNat, h.toNat, cap) w := by
  unfold Instr.sliceBounds
  rcases hl with ⟨rfl, rfl⟩ | ⟨q, rfl⟩ <;> rcases hh with ⟨rfl, rfl⟩ | ⟨q', rfl⟩
  · simp
  · simp only [run_bind, run_pure, run_sliceBound (v := .int q' h) (q := q') (n := h) _ w rfl (by omega) (by omega : h ≤ (cap : Int))]
    rfl
  · simp only [run_bind, run_pure]
    rw [run_sliceBound (v := .int q l) (q := q) (n := l) _ w rfl h0 (by omega)]
    simp
  · simp only [run_bind, run_pure, run_sliceBound (v := .int q' h) (q := q') (n := h) _ w rfl (by omega) (by omega : h ≤ (cap : Int))]
    rw [run_sliceBound (v := .int q l) (q := q) (n := l) _ w rfl h0 (by omega)]

theorem extract_mk (s : List UInt8) (l h : Nat) : (⟨s.toArray⟩ : ByteArray).extract l h = ⟨((s.take h).drop l).toArray⟩ := by
  apply ByteArray.ext
  simp [ByteArray.data_extract, List.drop_take]

theorem lenOf_VR {B : Base} {φ : Phi} {M : Mem} {w : World} {ob' : Nat → Option (Obj S)} {x : TV S} {u : Value} {n : Nat} (h : lenOf ob x = some n) (hs : ∀ s, x ≠ .str s) (hm' : x ≠ .nilm) (hrd : ∀ n ∈ rowName x, ob' n = ob n) (hm : RelW E B ob' w φ M) (hu : VR E φ M x u) :
    ∃ a cap, u = .slice a n cap ∧ n ≤ cap := by
  unfold lenOf at h
  split at h
  · cases h; exact ⟨none, 0, hu.nils, Nat.le_refl _⟩
  · rename_i nm
    split at h
    · rename_i c xs m ho
      cases h
      obtain ⟨g, hg, a, cap, rfl, h1, _⟩ := hu.slw_inv
      obtain ⟨g', hg', hL, _⟩ := hm.objs nm _ (by rw [hrd nm (by simp [rowName])]; exact ho)
      rw [hg] at hg'; cases hg'
      exact ⟨a, cap, by rw [hL], by rw [← hL]; exact h1⟩
    · rename_i c xs ho
      cases h
      obtain ⟨g, hg, a, cap, rfl, h1, _⟩ := hu.slw_inv
      obtain ⟨g', hg', hd⟩ := hm.objs nm _ (by rw [hrd nm (by simp [rowName])]; exact ho)
      rw [hg] at hg'; cases hg'
      have hL := hd.facts.1
      rw [DX.get_len] at hL
      exact ⟨a, cap, by rw [hL], by rw [← hL]; exact h1⟩
    · cases h
  · rename_i nm off len
    split at h
    · cases h
      obtain ⟨g, hg, a, cap, rfl, h1, _⟩ := hu.sl_inv
      exact ⟨a, cap, rfl, h1⟩
    · cases h
      obtain ⟨g, hg, a, cap, rfl, h1, _⟩ := hu.sl_inv
      exact ⟨a, cap, rfl, h1⟩
    · cases h
  · cases h
    obtain ⟨a, cap, b, of, rfl, h1, _⟩ := hu.tree_inv
    exact ⟨a, cap, rfl, h1⟩
  · rename_i s; exact absurd rfl (hs s)
  · exact absurd rfl hm'
  · cases h

theorem sliceOf_row (hE : EnvOk E) {e : TypeId} {nm : Nat} {x : TV S} (h : sliceOf E ob e x = true) (hx : x = .slw nm ∨ ∃ a b, x = .sl nm a b) :
    ∃ c xs m i, ob nm = some (.row c xs m) ∧ E.P.info? e = some i ∧ i.size = E.sz c := by
  have key : ∀ c, codeIs E e c = true → ∃ i, E.P.info? e = some i ∧ i.size = E.sz c := by
    intro c hc
    unfold codeIs at hc
    split at hc
    · rename_i d hd
      have : d = c := by simpa using hc
      subst this
      obtain ⟨i, h1, h2, _⟩ := hE.size e d hd
      exact ⟨i, h1, h2⟩
    · cases hc
  rcases hx with rfl | ⟨a, b, rfl⟩
  all_goals
    simp only [sliceOf] at h
    split at h
    · rename_i c xs m ho
      obtain ⟨i, h1, h2⟩ := key c h
      exact ⟨c, xs, m, i, ho, h1, h2⟩
    · cases h
theorem sliceOf_tree (hE : EnvOk E) {e : TypeId} {c : S.K} {xs : List (S.El c)} (h : sliceOf E ob e (.tree c xs) = true) : ∃ i, E.P.info? e = some i ∧ i.size = E.sz c := by
  simp only [sliceOf, codeIs] at h
  split at h
  · rename_i d hd
    have : d = c := by simpa using h
    subst this
    obtain ⟨i, h1, h2, _⟩ := hE.size e d hd
    exact ⟨i, h1, h2⟩
  · cases h
theorem sliceOf_info (hE : EnvOk E) {e : TypeId} {x : TV S} (h : sliceOf E ob e x = true) : ∃ i, E.P.info? e = some i := by
  unfold sliceOf at h
  have key : (E.code e).isSome = true → ∃ i, E.P.info? e = some i := by
    intro h
    obtain ⟨c, hc⟩ := Option.isSome_iff_exists.1 h
    obtain ⟨i, h1, _⟩ := hE.size e c hc
    exact ⟨i, h1⟩
  have key2 : ∀ c, codeIs E e c = true → (E.code e).isSome = true := by
    intro c h
    unfold codeIs at h
    split at h
    · rename_i d hd; rw [hd]; rfl
    · cases h
  split at h
  · exact key h
  · exact key (key2 _ h)
  · split at h
    · exact key (key2 _ h)
    · cases h
  · split at h
    · exact key (key2 _ h)
    · cases h
  · cases h

theorem ok_slice {ty : TypeId} {x : Operand} {lo hi : Option Operand} {d : TypeDesc} {kk : TV S → List Nat → Option R} (hE : EnvOk E) (ho : o.op = .slice ty x lo hi none) (hd : E.P.underlying ty = some d)
    (hk : (d = .string ∧ isStr (ev t x) = true) ∨ ∃ e, d = .slice e ∧ sliceOf E ob e (ev t x) = true)
    (h : sliceEval ob (ev t x) (lo.map (ev t)) (hi.map (ev t)) kk = some r) : ∃ tv rd, kk tv rd = some r ∧ OpOK E o t ob base ⟨tv, rd, [], base⟩ := by
  have hty : ∀ s, ev t x = .str s → d = .string := by
    intro s hs
    rcases hk with ⟨h, _⟩ | ⟨e, _, h⟩
    · exact h
    · rw [hs] at h; cases h
  have hsl : (∀ s, ev t x ≠ .str s) → ∃ e, d = .slice e ∧ sliceOf E ob e (ev t x) = true := by
    intro hs
    rcases hk with ⟨_, h⟩ | h
    · unfold isStr at h
      split at h
      · rename_i s hx; exact absurd hx (hs s)
      · cases h
    · exact h
  unfold sliceEval at h
  split at h
  · cases h
  · rename_i n hn
    split at h
    · rename_i l hh hl hhi
      split at h
      · rename_i hb
        obtain ⟨b0, b1, b2⟩ := hb
        -- the bounds, whatever the state
        have bounds : ∀ (φ : Phi) (M : Mem) (a : Act), (∀ x ∈ o.op.operands, VR E φ M (ev t x) (a.eval x)) → BoundIs (lo.map a.eval) 0 l ∧ BoundIs (hi.map a.eval) n hh := by
          intro φ M a hv
          rw [ho] at hv
          refine ⟨optInt_spec (E := E) (φ := φ) (M := M) hl ?_ ?_, optInt_spec (E := E) (φ := φ) (M := M) hhi ?_ ?_⟩
          · intro y hy; cases lo with
            | none => cases hy
            | some z => simp only [Option.map_some, Option.some.injEq] at hy; subst hy; exact ⟨_, rfl, hv z (by simp [Op.operands])⟩
          · intro e; cases lo with
            | none => rfl
            | some z => cases e
          · intro y hy; cases hi with
            | none => cases hy
            | some z => simp only [Option.map_some, Option.some.injEq] at hy; subst hy; exact ⟨_, rfl, hv z (by simp [Op.operands])⟩
          · intro e; cases hi with
            | none => rfl
            | some z => cases e
        -- a slice cut, in the model
        have cut : ∀ (e : TypeId) (i : TypeInfo) (φ : Phi) (M : Mem) (a : Act) (w : World) (ad : Option Addr) (cap : Nat), d = .slice e → E.P.info? e = some i → (∀ x ∈ o.op.operands, VR E φ M (ev t x) (a.eval x)) →
            a.eval x = .slice ad n cap → n ≤ cap → (execOp a.eval o).run E.P w = .ok (.value (.slice (if cap = l.toNat then ad else ad.map (·.add (l.toNat * i.size))) (hh.toNat - l.toNat) (cap - l.toNat))) w := by
          intro e i φ M a w ad cap hde hi hv hx hcap
          obtain ⟨q1, q2⟩ := bounds φ M a hv
          obtain ⟨dst, op', ty', pos, after, guard⟩ := o
          subst ho
          refine run_value ?_
          subst hde
          rw [hx]
          unfold Instr.sliceAt
          rw [run_bind, run_underlying ty w hd]
          simp only []
          unfold Instr.slice
          simp only [Option.map_none, run_bind, run_underlying ty w hd, run_sliceBounds true w q1 q2 b0 b1 b2 hcap, run_sizeOf e w hi, run_pure]
        split at h
        · rename_i s hx
          have hs : d = .string := hty s hx
          subst hs
          refine ⟨_, _, h, OpOK.value fun B nt t' ob' a w φ M hv hrd hm => ⟨_, ?_, .pure (.str _)⟩⟩
          obtain ⟨q1, q2⟩ := bounds φ M a hv
          have hx' := hv x (by rw [ho]; simp [Op.operands])
          rw [hx] at hx'
          have hx' := hx'.str
          have hn' : n = s.length := by rw [hx] at hn; simp [lenOf] at hn; exact hn.symm
          obtain ⟨dst, op', ty', pos, after, guard⟩ := o
          subst ho
          refine run_value (v := .string ⟨((s.take hh.toNat).drop l.toNat).toArray⟩) ?_
          rw [hx']
          unfold Instr.sliceAt
          rw [run_bind, run_underlying ty w hd]
          simp only []
          unfold Instr.slice
          have hsize : (⟨s.toArray⟩ : ByteArray).size = n := by rw [hn']; simp [ByteArray.size]
          simp only [Option.map_none, Option.isSome_none, Bool.false_eq_true, if_false, run_bind, run_underlying ty w hd, hsize, run_sliceBounds false w q1 q2 b0 b1 b2 (Nat.le_refl _), run_pure, extract_mk]
        · rename_i c xs hx
          split at h
          rotate_left
          · cases h
          rename_i htok
          obtain ⟨e, he, hso⟩ := hsl (by rw [hx]; intro s h; cases h)
          obtain ⟨i, hi1, hi2⟩ := sliceOf_tree hE (by rw [hx] at hso; exact hso)
          have hn' : n = xs.length := by rw [hx] at hn; simp [lenOf] at hn; exact hn.symm
          refine ⟨_, _, h, OpOK.value fun B nt t' ob' a w φ M hv hrd hm => ?_⟩
          have hx' := hv x (by rw [ho]; simp [Op.operands])
          rw [hx] at hx'
          obtain ⟨ad, cap, b, of, e1, hcap, had, hM⟩ := hx'.tree_inv
          refine ⟨_, cut e i φ M a w ad cap he hi1 hv (by rw [hn']; exact e1) (by omega), VR.tree_mk b (of + l.toNat * E.sz c) (by simp; omega) (by omega) (fun ht hx => by simp [tok, ht, hx] at htok) ?_ ?_⟩
          · by_cases hz : cap - l.toNat = 0
            · exact .inl hz
            · right
              have := had.resolve_left (by omega)
              rw [if_neg (by omega), this, Option.map_some, at_add, hi2]
          · intro j z m tv h1 h2
            have hj : j < hh.toNat - l.toNat := by
              have := (List.getElem?_eq_some_iff.1 h1).1
              simp at this; omega
            rw [List.getElem?_drop, List.getElem?_take_of_lt (by omega)] at h1
            obtain ⟨u, hu, hc⟩ := hM _ z m tv h1 h2
            refine ⟨u, ?_, hc⟩
            rw [← hu]; congr 1; rw [Nat.add_mul]; omega
        · rename_i hx
          obtain ⟨e, he, hso⟩ := hsl (by rw [hx]; intro s h; cases h)
          obtain ⟨i, hi1⟩ := sliceOf_info hE hso
          have hn' : n = 0 := by rw [hx] at hn; simp [lenOf] at hn; exact hn.symm
          refine ⟨_, _, h, OpOK.value fun B nt t' ob' a w φ M hv hrd hm => ⟨.slice none 0 0, ?_, .pure .nils⟩⟩
          have hx' := hv x (by rw [ho]; simp [Op.operands])
          rw [hx] at hx'
          have := cut e i φ M a w none 0 he hi1 hv (by rw [hn']; exact hx'.nils) (by omega)
          rw [this]
          have h1 : l.toNat = 0 := by omega
          have h2 : hh.toNat = 0 := by omega
          rw [h1, h2]; rfl
        · rename_i nm hx
          obtain ⟨e, he, hso⟩ := hsl (by rw [hx]; intro s h; cases h)
          obtain ⟨c, xs, m, i, ho1, hi1, hi2⟩ := sliceOf_row hE hso (.inl hx)
          have hn' : n = xs.length := by rw [hx] at hn; simp [lenOf, ho1] at hn; exact hn.symm
          refine ⟨_, _, h, OpOK.value fun B nt t' ob' a w φ M hv hrd hm => ?_⟩
          have hx' := hv x (by rw [ho]; simp [Op.operands])
          rw [hx] at hx'
          obtain ⟨g, hg, ad, cap, e1, hcap, hL, had⟩ := hx'.slw_inv
          obtain ⟨g', hg', hL', hs', _⟩ := hm.objs nm _ (by rw [hrd nm (by simp)]; exact ho1)
          rw [hg] at hg'; cases hg'
          refine ⟨_, cut e i φ M a w ad cap he hi1 hv (by rw [hn', ← hL']; exact e1) (by omega), .sl hg ⟨_, _, rfl, by omega, by omega, ?_⟩⟩
          by_cases hz : cap - l.toNat = 0
          · exact .inl hz
          · right
            obtain ⟨h1, h2⟩ := had.resolve_left (by omega)
            refine ⟨by rw [if_neg (by omega), h1, Option.map_some, at_add, hi2, hs']; simp, ?_⟩
            have : l.toNat + (cap - l.toNat) = 0 + cap := by omega
            rw [this]; exact h2
        · rename_i nm off len hx
          obtain ⟨e, he, hso⟩ := hsl (by rw [hx]; intro s h; cases h)
          obtain ⟨c, xs, m, i, ho1, hi1, hi2⟩ := sliceOf_row hE hso (.inr ⟨_, _, hx⟩)
          have hn' : n = len := by rw [hx] at hn; simp [lenOf, ho1] at hn; exact hn.symm
          refine ⟨_, _, h, OpOK.value fun B nt t' ob' a w φ M hv hrd hm => ?_⟩
          have hx' := hv x (by rw [ho]; simp [Op.operands])
          rw [hx] at hx'
          obtain ⟨g, hg, ad, cap, e1, hcap, hL, had⟩ := hx'.sl_inv
          obtain ⟨g', hg', hL', hs', _⟩ := hm.objs nm _ (by rw [hrd nm (by simp)]; exact ho1)
          rw [hg] at hg'; cases hg'
          refine ⟨_, cut e i φ M a w ad cap he hi1 hv (by rw [hn']; exact e1) (by omega), .sl hg ⟨_, _, rfl, by omega, by omega, ?_⟩⟩
          by_cases hz : cap - l.toNat = 0
          · exact .inl hz
          · right
            obtain ⟨h1, h2⟩ := had.resolve_left (by omega)
            refine ⟨by rw [if_neg (by omega), h1, Option.map_some, at_add, hi2, hs', Nat.add_mul], ?_⟩
            have : off + l.toNat + (cap - l.toNat) = off + cap := by omega
            rw [this]; exact h2
        · cases h
      · cases h
    · cases h

/-! ### literals of structs -/
def Pair (E : Env S) (φ : Phi) (M : Mem) (cs : List (TV S)) (vs : Array Value) : Prop :=
  cs.length = vs.size ∧ ∀ (i : Nat) (x : TV S) (v : Value), cs[i]? = some x → vs[i]? = some v → VR E φ M x v

theorem setCells_length : ∀ (vs cs : List (TV S)) (k : Nat), (setCells cs k vs).length = cs.length
  | [], cs, k => rfl
  | v :: r, cs, k => by simp only [setCells]; rw [setCells_length r]; simp
theorem setCells_get : ∀ (vs cs : List (TV S)) (k i : Nat), k + vs.length ≤ cs.length →
    (setCells cs k vs)[i]? = if k ≤ i ∧ i < k + vs.length then vs[i - k]? else cs[i]?
  | [], cs, k, i, _ => by simp [setCells]; omega
  | v :: r, cs, k, i, h => by
    simp only [setCells, List.length_cons] at h ⊢
    rw [setCells_get r (cs.set k v) (k + 1) i (by simp; omega)]
    by_cases h1 : k + 1 ≤ i ∧ i < k + 1 + r.length
    · rw [if_pos h1, if_pos (by omega), show i - k = (i - (k + 1)) + 1 by omega, List.getElem?_cons_succ]
    · rw [if_neg h1]
      by_cases h2 : i = k
      · subst h2
        rw [if_pos (by omega), List.getElem?_set_self (by omega)]
        simp
      · rw [if_neg (by omega), List.getElem?_set_ne (by omega)]

theorem foldl_set_spec (off : Nat) : ∀ (l : List Value) (n : Nat) (cs : Array Value), (off + n + l.length ≤ cs.size) → ∀ i,
    ((l.zipIdx n).foldl (fun cs (x : Value × Nat) => cs.setIfInBounds (off + x.2) x.1) cs)[i]? = if off + n ≤ i ∧ i < off + n + l.length then l[i - (off + n)]? else cs[i]?
  | [], n, cs, _, i => by simp; omega
  | v :: r, n, cs, h, i => by
    simp only [List.zipIdx_cons, List.foldl_cons, List.length_cons] at h ⊢
    rw [foldl_set_spec off r (n + 1) _ (by simp; omega) i]
    by_cases h1 : off + (n + 1) ≤ i ∧ i < off + (n + 1) + r.length
    · rw [if_pos h1, if_pos (by omega), show i - (off + n) = (i - (off + (n + 1))) + 1 by omega, List.getElem?_cons_succ]
    · rw [if_neg h1]
      by_cases h2 : i = off + n
      · subst h2
        rw [if_pos (by omega)]
        rw [Array.getElem?_setIfInBounds_self_of_lt (by omega)]
        simp
      · rw [if_neg (by omega), Array.getElem?_setIfInBounds_ne (by omega)]
theorem foldl_set_size (off : Nat) : ∀ (l : List Value) (n : Nat) (cs : Array Value), ((l.zipIdx n).foldl (fun cs (x : Value × Nat) => cs.setIfInBounds (off + x.2) x.1) cs).size = cs.size
  | [], n, cs => rfl
  | v :: r, n, cs => by
    simp only [List.zipIdx_cons, List.foldl_cons]
    rw [foldl_set_size off r (n + 1)]; simp

theorem fill_ok {φ : Phi} {M : Mem} {pl : Nat → Option (Nat × Nat)} : ∀ (ps : List (Nat × TV S)) (qs : List (Nat × Value)) (cs : List (TV S)) (vs : Array Value) (cs' : List (TV S)),
    fillT pl cs ps = some cs' → Pair E φ M cs vs → ps.length = qs.length →
    (∀ (i : Nat) (p : Nat × TV S) (q : Nat × Value), ps[i]? = some p → qs[i]? = some q → p.1 = q.1 ∧ VR E φ M p.2 q.2) → (∀ p ∈ ps, ∀ c ∈ cellsOf p.2, aliveCell c = true) →
    ∃ vs', Instr.fill pl vs qs = some vs' ∧ Pair E φ M cs' vs'
  | [], qs, cs, vs, cs', h, hp, hl, _, _ => by
    have : qs = [] := List.length_eq_zero_iff.1 (by simpa using hl.symm)
    subst this
    simp only [fillT, Option.some.injEq] at h
    subst h
    exact ⟨vs, rfl, hp⟩
  | (j, x) :: ps, qs, cs, vs, cs', h, hp, hl, hq, hal => by
    cases qs with
    | nil => simp at hl
    | cons q qs =>
      obtain ⟨j', v⟩ := q
      obtain ⟨e1, hv⟩ := hq 0 (j, x) (j', v) (by simp) (by simp)
      simp only at e1 hv
      subst e1
      simp only [fillT] at h
      split at h
      · cases h
      · rename_i off n hpl
        split at h
        · rename_i hc
          have hd : x ≠ .dead := by rintro rfl; have := hal (j, .dead) (by simp) .dead (by simp [cellsOf]); simp [aliveCell] at this
          obtain ⟨hcl, hcv⟩ := VR.cells hd hv
          have hp2 : cs.length = vs.size := hp.1
          have hpair : Pair E φ M (setCells cs off (cellsOf x)) ((v.cells.zipIdx.foldl (fun cs (c, j) => cs.setIfInBounds (off + j) c) vs)) := by
            have hfold : v.cells.zipIdx.foldl (fun cs (c, j) => cs.setIfInBounds (off + j) c) vs = (v.cells.toList.zipIdx 0).foldl (fun cs (x : Value × Nat) => cs.setIfInBounds (off + x.2) x.1) vs := by
              rw [← Array.foldl_toList]; simp
            rw [hfold]
            refine ⟨by rw [setCells_length, foldl_set_size]; exact hp.1, fun i y u h1 h2 => ?_⟩
            rw [setCells_get _ _ _ _ (by omega)] at h1
            rw [foldl_set_spec off _ 0 vs (by simp; omega) i] at h2
            have hlen : v.cells.toList.length = (cellsOf x).length := by simp; omega
            rw [hlen] at h2
            simp only [Nat.add_zero] at h2
            by_cases hr : off ≤ i ∧ i < off + (cellsOf x).length
            · rw [if_pos hr] at h1 h2
              exact hcv _ y u h1 (by simpa using h2)
            · rw [if_neg hr] at h1 h2
              exact hp.2 i y u h1 h2
          obtain ⟨vs', h1, h2⟩ := fill_ok ps qs _ _ cs' h hpair (by simpa using hl) (fun i p q h1 h2 => hq (i + 1) p q (by simpa using h1) (by simpa using h2)) (fun p hp => hal p (by simp [hp]))
          refine ⟨vs', ?_, h2⟩
          simp only [Instr.fill, hpl]
          rw [if_neg (by simp; omega)]
          exact h1
        · cases h

theorem zeroT_spec {P : Program} {ty : TypeId} {z : List (TV S)} (h : zeroT P ty = some z) : ∃ i v, P.info? ty = some i ∧ i.zero = some v ∧ z = v.cells.toList.map ofVal := by
  unfold zeroT at h
  split at h
  · rename_i i hi
    simp only [Option.map_eq_some_iff] at h
    obtain ⟨v, hv, rfl⟩ := h
    exact ⟨i, v, hi, hv, rfl⟩
  · cases h
theorem zero_pair (φ : Phi) (M : Mem) (v : Value) : Pair E φ M (v.cells.toList.map (ofVal (S := S))) v.cells := by
  refine ⟨by simp, fun i x u h1 h2 => ?_⟩
  simp only [List.getElem?_map, Array.getElem?_toList, h2, Option.map_some, Option.some.injEq] at h1
  subst h1
  exact ofVal_VR E φ M u

theorem run_places {P : Program} (w : World) : ∀ (fs : List Field) (l : List (Nat × Nat)), (fs.mapM fun f => (P.info? f.type).map fun i => (f.offset, i.size)) = some l →
    (fs.mapM fun f => do pure (f.offset, ← Go.sizeOf f.type) : Sem (List (Nat × Nat))).run P w = .ok l w
  | [], l, h => by simp only [List.mapM_nil, Option.pure_def, Option.some.injEq] at h; subst h; simp
  | f :: fs, l, h => by
    rw [List.mapM_cons] at h
    cases hf : P.info? f.type with
    | none => rw [hf] at h; cases h
    | some i =>
      rw [hf] at h
      simp only [Option.map_some, Option.pure_def, Option.bind_eq_bind, Option.bind_some] at h
      cases hr : (fs.mapM fun f => (P.info? f.type).map fun i => (f.offset, i.size)) with
      | none => rw [hr] at h; cases h
      | some l' =>
        rw [hr] at h
        simp only [Option.bind_some, Option.some.injEq] at h
        subst h
        rw [List.mapM_cons]
        simp only [run_bind, run_sizeOf f.type w hf, run_pure, run_places w fs l' hr]

theorem ok_build {ty : TypeId} {ps : Array (Nat × Operand)} {z cs : List (TV S)} {pl : Nat → Option (Nat × Nat)} (ho : o.op = .build ty ps) (hz : zeroT E.P ty = some z) (hpl : places E.P ty = some pl)
    (hf : fillT pl z (ps.toList.map fun p => (p.1, ev t p.2)) = some cs) (hal : ∀ p ∈ ps.toList, ∀ c ∈ cellsOf (ev t p.2), aliveCell c = true) : OpOK E o t ob base ⟨.agg cs, [], [], base⟩ := by
  refine OpOK.value fun B nt t' ob' a w φ M hv hrd hm => ?_
  have hv' : ∀ p ∈ ps.toList, VR E φ M (ev t p.2) (a.eval p.2) := fun p hp => hv p.2 (by rw [ho]; simp [Op.operands]; exact ⟨p.1, by simpa using hp⟩)
  obtain ⟨i, zv, hi, hzv, rfl⟩ := zeroT_spec hz
  obtain ⟨vs', h1, h2⟩ := fill_ok (E := E) (φ := φ) (M := M) _ (ps.toList.map fun p => (p.1, a.eval p.2)) _ zv.cells cs hf (zero_pair φ M zv) (by simp) (by
    intro i p q hp hq
    simp only [List.getElem?_map, Option.map_eq_some_iff] at hp hq
    obtain ⟨p', hp', rfl⟩ := hp
    obtain ⟨q', hq', rfl⟩ := hq
    rw [hp'] at hq'; cases hq'
    exact ⟨rfl, hv' p' (List.mem_of_getElem? hp')⟩) (by
    intro p hp c hc
    simp only [List.mem_map] at hp
    obtain ⟨p', hp', rfl⟩ := hp
    exact hal p' hp' c hc)
  obtain ⟨dst, op', ty', pos, after, guard⟩ := o
  subst ho
  refine ⟨.agg vs', run_value ?_, .agg h2.1 h2.2⟩
  have hps : (ps.map fun p => (p.1, a.eval p.2)).toList = ps.toList.map fun p => (p.1, a.eval p.2) := by simp
  unfold Instr.build
  unfold places at hpl
  split at hpl
  · rename_i fs hfs
    simp only [Option.map_eq_some_iff] at hpl
    obtain ⟨l, hl, rfl⟩ := hpl
    have hmap : (fs.mapM fun f => do pure (f.offset, ← Go.sizeOf f.type) : Sem (Array (Nat × Nat))).run E.P w = .ok l.toArray w := by
      have hfs' : fs = fs.toList.toArray := by simp
      rw [hfs', List.mapM_toArray, map_eq_pure_bind, run_bind, run_places w fs.toList l hl]
      rfl
    simp only [run_bind, run_zeroValue ty w hi hzv, run_underlying ty w hfs, hmap]
    have : (fun (i : Nat) => l.toArray[i]?) = fun i => l[i]? := by funext i; simp
    simp only [this, hps, h1]
    rfl
  · rename_i L e hfs
    simp only [Option.map_eq_some_iff] at hpl
    obtain ⟨ie, hie, rfl⟩ := hpl
    simp only [run_bind, run_zeroValue ty w hi hzv, run_underlying ty w hfs, run_sizeOf e w hie, hps, h1]
    rfl
  · cases hpl
end
end TE
