/- TE: append, literals of slices, make. -/
import Derived.Test.YtkhkbikglgpkoaaGreatTE10
namespace TE
open Go
variable {S : Sig} {E : Env S}

/-- Elements, as a flat list of values. -/
def RowV (E : Env S) (M : Mem) (c : S.K) (ys : List (S.El c)) (vs : List Value) : Prop :=
  ∀ i y j tv, ys[i]? = some y → (E.enc c y)[j]? = some tv → ∃ v, vs[i * E.sz c + j]? = some v ∧ CR E M tv v

theorem split_pos (hE : EncOk E) {c : S.K} {ys : List (S.El c)} {p : Nat} (h : p < ys.length * E.sz c) :
    ∃ i y j tv, ys[i]? = some y ∧ (E.enc c y)[j]? = some tv ∧ p = i * E.sz c + j := by
  have hp := hE.pos c
  have hi : p / E.sz c < ys.length := Nat.div_lt_of_lt_mul (by rw [Nat.mul_comm]; exact h)
  have hj : p % E.sz c < E.sz c := Nat.mod_lt _ hp
  have hy : ys[p / E.sz c]? = some ys[p / E.sz c] := List.getElem?_eq_getElem hi
  have hl : p % E.sz c < (E.enc c ys[p / E.sz c]).length := by rw [hE.len]; exact hj
  exact ⟨_, _, _, _, hy, List.getElem?_eq_getElem hl, by rw [Nat.mul_comm]; exact (Nat.div_add_mod p _).symm⟩

theorem load_row {P : Program} (hE : EnvOk E) {M : Mem} {c : S.K} {ys : List (S.El c)} {b off : Nat} {w : World}
    (f : ∀ i y j tv, ys[i]? = some y → (E.enc c y)[j]? = some tv → ∃ v, w.cell? (at_ b (off + (i * E.sz c + j))) = some v ∧ CR E M tv v) :
    ∃ us : List Value, (loadCells (at_ b off) (ys.length * E.sz c)).run P w = .ok us.toArray w ∧ us.length = ys.length * E.sz c ∧ RowV E M c ys us ∧ ∀ v ∈ us, oneCell v = true := by
  let us : List Value := (List.range (ys.length * E.sz c)).map fun p => (w.cell? (at_ b (off + p))).getD Go.undef
  have hget : ∀ p, p < ys.length * E.sz c → ∃ i y j tv v, ys[i]? = some y ∧ (E.enc c y)[j]? = some tv ∧ p = i * E.sz c + j ∧ w.cell? (at_ b (off + p)) = some v ∧ CR E M tv v ∧ us[p]? = some v := by
    intro p hp
    obtain ⟨i, y, j, tv, h1, h2, h3⟩ := split_pos hE.toEncOk hp
    obtain ⟨v, h4, h5⟩ := f i y j tv h1 h2
    rw [← h3] at h4
    exact ⟨i, y, j, tv, v, h1, h2, h3, h4, h5, by simp [us, hp, h4]⟩
  refine ⟨us, run_loadCells b off w us _ (by simp [us]) (fun j v hj => ?_), by simp [us], fun i y j tv hi hj => ?_, fun v hv => ?_⟩
  · have hlt : j < ys.length * E.sz c := by have := (List.getElem?_eq_some_iff.1 hj).1; simpa [us] using this
    obtain ⟨_, _, _, _, v', _, _, _, h4, _, h6⟩ := hget j hlt
    rw [hj] at h6; cases h6; exact h4
  · have hlt := elt_lt hE.toEncOk hi hj
    obtain ⟨v, h4, h5⟩ := f i y j tv hi hj
    exact ⟨v, by simp [us, hlt.2.2, h4], h5⟩
  · obtain ⟨p, hp⟩ := List.mem_iff_getElem?.1 hv
    have hlt : p < ys.length * E.sz c := by have := (List.getElem?_eq_some_iff.1 hp).1; simpa [us] using this
    obtain ⟨i, y, j, tv, v', h1, h2, _, _, h5, h6⟩ := hget p hlt
    rw [hp] at h6; cases h6
    exact oneCell_of h5 (hE.pure c y tv (List.mem_of_getElem? h2))

theorem firstCells_ok (hE : EnvOk E) {B : Base} {o : Nat → Option (Obj S)} {w : World} {φ : Phi} {M : Mem} (h : RelW E B o w φ M) {y : TV S} {c : S.K} {ys : List (S.El c)} {u : Value} (hl : listOf o c y = some ys) (hu : VR E φ M y u) :
    ∃ us : List Value, (Builtin.lenOf u).run E.P w = .ok ys.length w ∧ (Builtin.firstCells (E.sz c) ys.length u).run E.P w = .ok us.toArray w ∧ us.length = ys.length * E.sz c ∧ RowV E M c ys us ∧ ∀ v ∈ us, oneCell v = true := by
  have slice : ∀ (a : Option Addr) (cap : Nat) (b off : Nat), ys.length ≤ cap → (cap = 0 ∨ a = some (at_ b off)) →
      (∀ i y j tv, ys[i]? = some y → (E.enc c y)[j]? = some tv → ∃ v, w.cell? (at_ b (off + (i * E.sz c + j))) = some v ∧ CR E M tv v) →
      ∃ us : List Value, (Builtin.lenOf (.slice a ys.length cap)).run E.P w = .ok ys.length w ∧ (Builtin.firstCells (E.sz c) ys.length (.slice a ys.length cap)).run E.P w = .ok us.toArray w ∧ us.length = ys.length * E.sz c ∧ RowV E M c ys us ∧ ∀ v ∈ us, oneCell v = true := by
    intro a cap b off hcap ha f
    by_cases hz : ys.length = 0
    · have : ys = [] := List.length_eq_zero_iff.1 hz
      subst this
      refine ⟨[], rfl, ?_, by simp, fun i y j tv hi => by simp at hi, by simp⟩
      cases a with
      | none => rfl
      | some ad =>
        simp only [List.length_nil, Builtin.firstCells, Nat.zero_mul]
        rfl
    · have ha := ha.resolve_left (by omega)
      subst ha
      obtain ⟨us, h1, h2, h3, h4⟩ := load_row (P := E.P) hE f
      exact ⟨us, rfl, h1, h2, h3, h4⟩
  unfold listOf at hl
  split at hl
  · cases hl; cases hu.nils
    exact slice none 0 0 0 (Nat.le_refl _) (.inl rfl) (fun i y j tv hi => by simp at hi)
  · rename_i nm
    split at hl
    · rename_i d xs m ho
      split at hl
      · rename_i e
        subst e
        cases hl
        obtain ⟨g, hg, hL, hs, _, hr⟩ := h.objs nm _ ho
        obtain ⟨g', hg', a, cap, rfl, hle, _, hcap⟩ := hu.slw_inv
        rw [hg] at hg'; cases hg'
        rw [hL]
        refine slice a cap g.b 0 (by show xs.length ≤ cap; omega) (hcap.imp id fun e => by rw [e.1]; simp) (fun i y j tv hi hj => ?_)
        rw [Nat.zero_add, ← hs]
        cases m with
        | own => exact hr.2 i y j tv hi hj
        | app => obtain ⟨v, hv, hc⟩ := hr.2.1 i y j tv hi hj; exact ⟨v, h.mval _ _ _ hv, hc⟩
        | ro => obtain ⟨v, hv, hc⟩ := hr i y j tv hi hj; exact ⟨v, h.mval _ _ _ hv, hc⟩
      · cases hl
    · cases hl
  · rename_i nm of len
    split at hl
    · rename_i d xs m ho
      split at hl
      · rename_i e
        subst e
        cases hl
        obtain ⟨g, hg, hL, hs, _, hr⟩ := h.objs nm _ ho
        obtain ⟨g', hg', a, cap, rfl, hle, hof, hcap⟩ := hu.sl_inv
        rw [hg] at hg'; cases hg'
        have hlen : ((xs.drop of).take len).length = len := by simp; omega
        have := slice a cap g.b (of * g.s) (by show ((xs.drop of).take len).length ≤ cap; omega) (hcap.imp id fun e => e.1) (fun i y j tv hi hj => by
          have hi : ((xs.drop of).take len)[i]? = some y := hi
          have hlt : i < len := by have := (List.getElem?_eq_some_iff.1 hi).1; simp at this; omega
          rw [List.getElem?_take_of_lt hlt, List.getElem?_drop] at hi
          rw [← hs, show of * g.s + (i * g.s + j) = (of + i) * g.s + j by rw [Nat.add_mul]; omega]
          cases m with
          | own => exact hr.2 _ y j tv hi hj
          | app => obtain ⟨v, hv, hc⟩ := hr.2.1 _ y j tv hi hj; exact ⟨v, h.mval _ _ _ hv, hc⟩
          | ro => obtain ⟨v, hv, hc⟩ := hr _ y j tv hi hj; exact ⟨v, h.mval _ _ _ hv, hc⟩)
        have e2 : (List.take len (List.drop of (castRow rfl xs))).length = len := hlen
        rw [e2] at this ⊢
        exact this
      · cases hl
    · cases hl
  · rename_i d xs
    split at hl
    · rename_i e
      subst e
      cases hl
      obtain ⟨a, cap, b, of, rfl, hcap, ha, hM⟩ := hu.tree_inv
      refine slice a cap b of hcap ha (fun i y j tv hi hj => ?_)
      obtain ⟨v, hv, hc⟩ := hM i y j tv hi hj
      exact ⟨v, by rw [← Nat.add_assoc]; exact h.mval _ _ _ hv, hc⟩
    · cases hl
  · cases hl

theorem growBy_le (n : Nat) : ∀ (r c : Nat), c ≤ n + n / 4 + 192 → Builtin.growBy n r c ≤ n + n / 4 + 192
  | 0, c, h => h
  | r + 1, c, h => by
    unfold Builtin.growBy
    split
    · exact h
    · exact growBy_le n r _ (by omega)
theorem nextslicecap_le {n c : Nat} (h : c < n) : Builtin.nextslicecap n c ≤ n + n / 4 + 512 := by
  unfold Builtin.nextslicecap
  split
  · omega
  · split
    · omega
    · have := growBy_le n 4 c (by omega); omega
theorem cap_fits {n c b : Nat} (h : c < n) (hn : n ≤ maxRow) (hb : b ≤ 2 ^ 11) : ¬ Builtin.nextslicecap n c * b > 2 ^ 48 := by
  have h1 := nextslicecap_le h
  simp only [maxRow] at hn
  have h2 : Builtin.nextslicecap n c ≤ 2 ^ 36 + 2 ^ 36 / 4 + 512 := by omega
  have h3 : Builtin.nextslicecap n c * b ≤ (2 ^ 36 + 2 ^ 36 / 4 + 512) * 2 ^ 11 := Nat.mul_le_mul h2 hb
  omega
theorem run_askRoom {P : Program} (n : Nat) (w : World) : (askRoom n).run P w = .ok () w := by
  unfold askRoom
  split <;> rfl
theorem run_appendCap {P : Program} (n c : Nat) (e : TypeId) (w : World) : ∃ x, (choose (.appendCap n c e)).run P w = .ok (n + x) w.drew := ⟨_, rfl⟩

theorem run_notInt {P : Program} {ts : Array TypeId} {xt e : TypeId} (w : World) (h1 : ts[1]? = some xt) (h2 : P.underlying xt = some (.slice e)) :
    (match ts[1]? with | some xType => (do pure ((← underlying xType) matches .int _) : Sem Bool) | none => pure false).run P w = .ok false w := by
  simp only [h1, run_bind, run_underlying xt w h2, run_pure]

/-- Room for the new elements: they are written behind the old ones. -/
theorem run_append_room {P : Program} {ts : Array TypeId} {ty st xt e e' : TypeId} {i : TypeInfo} {a : Option Addr} {L cap n : Nat} {x : Value} {us : List Value} {w W' : World} (h0 : ts[0]? = some st) (hu : P.underlying st = some (.slice e)) (h1 : ts[1]? = some xt)
    (hx : P.underlying xt = some (.slice e')) (hi : P.info? e = some i) (hn : (Builtin.lenOf x).run P w = .ok n w) (hc : (Builtin.firstCells i.size n x).run P w = .ok us.toArray w) (hle : L + n ≤ cap)
    (hs : ∀ ad, a = some ad → (storeCells (ad.add (L * i.size)) us).run P w = .ok () W') (ha : a = none → W' = w) :
    (Builtin.append_ ts ty #[.slice a L cap, x]).run P w = .ok (.slice a (L + n) cap) W' := by
  unfold Builtin.append_
  simp only [h0, show (#[Value.slice a L cap, x] : Array Value)[0]? = some (Value.slice a L cap) from rfl, show (#[Value.slice a L cap, x] : Array Value)[1]? = some x from rfl]
  rw [run_bind, run_underlying st w hu]
  simp only []
  rw [run_bind, run_sizeOf e w hi]
  simp only [h1]
  simp only [run_bind, run_underlying xt w hx, run_pure, Bool.false_eq_true, if_false, hn, hle, if_true, Bool.not_false, hc]
  cases a with
  | none => rw [ha rfl]; rfl
  | some ad =>
    simp only [run_bind]
    rw [hs ad rfl]
    rfl

/-- No room: a new array. -/
theorem run_append_grow {P : Program} {ts : Array TypeId} {ty st xt e e' : TypeId} {i : TypeInfo} {z : Value} {a : Option Addr} {L cap n : Nat} {x : Value} {us0 us : List Value} {w : World} (h0 : ts[0]? = some st) (hu : P.underlying st = some (.slice e))
    (h1 : ts[1]? = some xt) (hx : P.underlying xt = some (.slice e')) (hi : P.info? e = some i) (hz : i.zero = some z) (hb : i.bytes ≤ 2 ^ 11) (hmax : L + n ≤ maxRow) (hn : (Builtin.lenOf x).run P w = .ok n w)
    (hc : (Builtin.firstCells i.size n x).run P w.drew = .ok us.toArray w.drew) (hc0 : (Builtin.firstCells i.size L (.slice a L cap)).run P w.drew = .ok us0.toArray w.drew) (hle : ¬ L + n ≤ cap) :
    ∃ x' : Nat, (Builtin.append_ ts ty #[.slice a L cap, x]).run P w =
      .ok (.slice (some (at_ w.heap.size 0)) (L + n) (L + n + x')) (w.drew.alloc (.cells (us0.toArray ++ us.toArray ++ Builtin.zeroCells z.cells x') e)) := by
  obtain ⟨x', hx'⟩ := run_appendCap (P := P) (L + n) cap e w
  refine ⟨x', ?_⟩
  unfold Builtin.append_
  simp only [h0, show (#[Value.slice a L cap, x] : Array Value)[0]? = some (Value.slice a L cap) from rfl, show (#[Value.slice a L cap, x] : Array Value)[1]? = some x from rfl]
  rw [run_bind, run_underlying st w hu]
  simp only []
  rw [run_bind, run_sizeOf e w hi]
  simp only [h1]
  have hint : ¬ (((L + n : Nat) : Int) > IntKind.i64.max ∧ (false = true ∨ i.bytes = 0)) := by
    have : IntKind.i64.max = 9223372036854775807 := by decide
    rw [this]
    simp only [maxRow] at hmax
    omega
  have hfit := cap_fits (b := i.bytes) (by omega : cap < L + n) hmax hb
  simp only [run_bind, run_underlying xt w hx, run_pure, Bool.false_eq_true, if_false, hn, hle, run_typeInfo e w hi, Bool.not_false, if_true]
  rw [if_neg (by simpa using hint)]
  simp only [run_bind, run_typeInfo e w hi]
  rw [if_neg hfit]
  simp only [run_bind, run_pure, hx', run_typeInfo e w.drew hi, run_askRoom, hc0, hc, run_zeroValue e w.drew hi hz]
  simp only [Nat.add_sub_cancel_left]
  rfl
end TE
