/- TE: the model's own operations on memory, run. -/
import Derived.Test.YtkhkbikglgpkoaaGreatTE2
namespace TE
open Go
variable {S : Sig} {P : Program}

theorem run_bind {α β : Type} (s : Sem α) (f : α → Sem β) (w : World) : (s >>= f).run P w = match s.run P w with | .ok a w' => (f a).run P w' | .halt h w' => .halt h w' := by
  show (s.bind f).run P w = _
  induction s generalizing w with
  | pure a => rfl
  | load m a k ih =>
    simp only [Sem.bind, Sem.run]
    split
    · exact ih _ w
    · split
      · exact ih _ w
      · rfl
  | store m a v k ih =>
    cases v <;> simp only [Sem.bind, Sem.run] <;>
    · split
      · split
        · rfl
        · exact ih _
      · split
        · exact ih _
        · rfl
  | new o k ih => simp only [Sem.bind, Sem.run]; exact ih _ _
  | shape r k ih => simp only [Sem.bind, Sem.run]; exact ih _ _
  | freeze a n k ih => simp only [Sem.bind, Sem.run]; exact ih _
  | frozen a k ih => simp only [Sem.bind, Sem.run]; exact ih _ _
  | getObj r k ih =>
    simp only [Sem.bind, Sem.run]
    split
    · rfl
    · exact ih _ _
    · rfl
  | setObj r o k ih =>
    simp only [Sem.bind, Sem.run]
    split
    · rfl
    · exact ih _
    · rfl
  | choose q k ih =>
    simp only [Sem.bind, Sem.run]
    split
    · exact ih _ _
    · exact ih _ _
  | sys c k ih => simp only [Sem.bind, Sem.run]; exact ih _ _
  | program k ih => simp only [Sem.bind, Sem.run]; exact ih _ _
  | mark m k ih => simp only [Sem.bind, Sem.run]; exact ih _
  | halt h => rfl

theorem run_pure {α : Type} (a : α) (w : World) : (pure a : Sem α).run P w = .ok a w := rfl
theorem run_load (a : Addr) (w : World) {v : Value} (h : w.cell? a = some v) : (load a).run P w = .ok v w := by
  simp [load, Sem.run, h]
theorem run_typeInfo (t : TypeId) (w : World) {i : TypeInfo} (h : P.info? t = some i) : (typeInfo t).run P w = .ok i w := by
  unfold typeInfo
  rw [run_bind]
  show Sem.run P (match P.info? t with | some i => pure i | none => stuck "no such type") w = _
  rw [h]; rfl
theorem run_underlying (t : TypeId) (w : World) {d : TypeDesc} (h : P.underlying t = some d) : (underlying t).run P w = .ok d w := by
  unfold underlying
  rw [run_bind]
  show Sem.run P (match P.underlying t with | some i => pure i | none => stuck "no such type") w = _
  rw [h]; rfl
theorem run_sizeOf (t : TypeId) (w : World) {i : TypeInfo} (h : P.info? t = some i) : (Go.sizeOf t).run P w = .ok i.size w := by
  unfold Go.sizeOf
  rw [run_bind, run_typeInfo t w h]; rfl
theorem run_zeroValue (t : TypeId) (w : World) {i : TypeInfo} {v : Value} (h : P.info? t = some i) (hz : i.zero = some v) : (zeroValue t).run P w = .ok v w := by
  unfold zeroValue
  rw [run_bind, run_typeInfo t w h]
  simp only [hz]; rfl
theorem run_isAgg (t : TypeId) (w : World) {d : TypeDesc} (h : P.underlying t = some d) :
    (isAgg t).run P w = .ok (isAggD d) w := by
  unfold isAgg
  rw [run_bind, run_underlying t w h]
  cases d <;> rfl

theorem run_loadCellsFrom (b off : Nat) (w : World) (vs : List Value) : ∀ (i : Nat) (acc : Array Value),
    (∀ j v, vs[j]? = some v → w.cell? (at_ b (off + i + j)) = some v) →
    (loadCellsFrom (at_ b off) i vs.length acc).run P w = .ok (acc ++ vs.toArray) w := by
  induction vs with
  | nil => intro i acc _; simp [loadCellsFrom, run_pure]
  | cons v r ih =>
    intro i acc h
    simp only [List.length_cons, loadCellsFrom]
    have h0 := h 0 v (by simp)
    rw [run_bind, at_add, run_load _ _ (by simpa using h0)]
    simp only []
    rw [ih (i + 1) (acc.push v) (fun j u hu => by have := h (j + 1) u (by simpa using hu); rw [show off + (i + 1) + j = off + i + (j + 1) by omega]; exact this)]
    simp
theorem run_loadCells (b off : Nat) (w : World) (vs : List Value) (n : Nat) (hn : n = vs.length) (h : ∀ j v, vs[j]? = some v → w.cell? (at_ b (off + j)) = some v) :
    (loadCells (at_ b off) n).run P w = .ok vs.toArray w := by
  subst hn
  unfold loadCells
  rw [run_loadCellsFrom b off w vs 0 #[] (fun j v hv => by simpa using h j v hv)]
  simp

/-- A row of cells written. -/
def writeCells (w : World) (b off : Nat) : List Value → World
  | [] => w
  | v :: r => writeCells (w.setCell (at_ b off) v) b (off + 1) r
def oneCell : Value → Bool
  | .agg _ => false
  | .tuple _ => false
  | _ => true
theorem run_store (a : Addr) (v : Value) (w : World) (hv : oneCell v = true) (hl : ∃ u, w.cell? a = some u) (hf : w.frozen? a = false) : (store a v).run P w = .ok () (w.setCell a v) := by
  obtain ⟨u, hu⟩ := hl
  cases v <;> first | (simp [oneCell] at hv; done) | (simp [store, Sem.run, hu, hf]; done)
theorem writeCells_size (vs : List Value) : ∀ (w : World) (b off : Nat), (writeCells w b off vs).heap.size = w.heap.size := by
  induction vs with
  | nil => intro w b off; rfl
  | cons v r ih => intro w b off; simp only [writeCells]; rw [ih]; simp
theorem writeCells_heap (vs : List Value) : ∀ (w : World) (b off k : Nat), k ≠ b → (writeCells w b off vs).heap[k]? = w.heap[k]? := by
  induction vs with
  | nil => intro w b off k _; rfl
  | cons v r ih => intro w b off k hk; simp only [writeCells]; rw [ih _ _ _ _ hk, heap_setCell _ _ _ _ hk]
theorem writeCells_frozen (vs : List Value) : ∀ (w : World) (b off : Nat) (a : Addr), (writeCells w b off vs).frozen? a = w.frozen? a := by
  induction vs with
  | nil => intro w b off a; rfl
  | cons v r ih => intro w b off a; simp only [writeCells]; rw [ih]; simp
theorem writeCells_os (vs : List Value) : ∀ (w : World) (b off : Nat), (writeCells w b off vs).os = w.os ∧ (writeCells w b off vs).tape = w.tape ∧ (writeCells w b off vs).output = w.output := by
  induction vs with
  | nil => intro w b off; exact ⟨rfl, rfl, rfl⟩
  | cons v r ih => intro w b off; simp only [writeCells]; exact ih _ _ _
theorem writeCells_drawn (vs : List Value) : ∀ (w : World) (b off : Nat), (writeCells w b off vs).drawn = w.drawn := by
  induction vs with
  | nil => intro w b off; rfl
  | cons v r ih => intro w b off; exact (ih _ _ _).trans rfl
theorem writeCells_below (vs : List Value) : ∀ (w : World) (b off k : Nat), k < off → (writeCells w b off vs).cell? (at_ b k) = w.cell? (at_ b k) := by
  induction vs with
  | nil => intro w b off k _; rfl
  | cons v r ih =>
    intro w b off k hk
    simp only [writeCells]
    rw [ih _ _ _ _ (by omega), World.cell?_setCell_other]
    intro e; simp [at_] at e; omega
theorem writeCells_above (vs : List Value) : ∀ (w : World) (b off k : Nat), off + vs.length ≤ k → (writeCells w b off vs).cell? (at_ b k) = w.cell? (at_ b k) := by
  induction vs with
  | nil => intro w b off k _; rfl
  | cons v r ih =>
    intro w b off k hk
    simp only [writeCells]
    simp only [List.length_cons] at hk
    rw [ih _ _ _ _ (by omega), World.cell?_setCell_other]
    intro e; simp [at_] at e; omega
theorem writeCells_at (vs : List Value) : ∀ (w : World) (b off : Nat), (∀ j, j < vs.length → ∃ u, w.cell? (at_ b (off + j)) = some u) →
    ∀ j v, vs[j]? = some v → (writeCells w b off vs).cell? (at_ b (off + j)) = some v := by
  induction vs with
  | nil => intro w b off _ j v hj; simp at hj
  | cons v r ih =>
    intro w b off h j u hj
    simp only [writeCells]
    cases j with
    | zero =>
      simp at hj; subst hj
      rw [writeCells_below _ _ _ _ _ (by omega)]
      obtain ⟨u, hu⟩ := h 0 (by simp)
      exact World.cell?_setCell_same _ _ _ hu
    | succ j =>
      have := ih (w.setCell (at_ b off) v) b (off + 1) (fun k hk => by
        obtain ⟨u, hu⟩ := h (k + 1) (by simp; omega)
        refine ⟨u, ?_⟩
        rw [World.cell?_setCell_other]
        · rw [show off + 1 + k = off + (k + 1) by omega]; exact hu
        · intro e; simp [at_] at e; omega) j u (by simpa using hj)
      rw [show off + (j + 1) = off + 1 + j by omega]; exact this
theorem run_storeCells (b off : Nat) (vs : List Value) : ∀ (w : World) (i : Nat), (∀ v ∈ vs, oneCell v = true) →
    (∀ j, j < vs.length → Live w b (off + i + j)) → (storeCells (at_ b off) vs i).run P w = .ok () (writeCells w b (off + i) vs) := by
  induction vs with
  | nil => intro w i _ _; rfl
  | cons v r ih =>
    intro w i hv hl
    simp only [storeCells, writeCells]
    have h0 := hl 0 (by simp)
    rw [run_bind, at_add, run_store _ _ _ (hv v (by simp)) (by simpa using h0.1) (by simpa using h0.2)]
    simp only []
    rw [ih (w.setCell (at_ b (off + i)) v) (i + 1) (fun u hu => hv u (by simp [hu])) ?_]
    · rfl
    · intro j hj
      have := hl (j + 1) (by simp; omega)
      refine ⟨?_, by rw [World.frozen?_setCell]; rw [show off + (i + 1) + j = off + i + (j + 1) by omega]; exact this.2⟩
      obtain ⟨u, hu⟩ := this.1
      refine ⟨u, ?_⟩
      rw [World.cell?_setCell_other]
      · rw [show off + (i + 1) + j = off + i + (j + 1) by omega]; exact hu
      · intro e; simp [at_] at e; omega

/-- What the types' table says, as the evaluator asks it. -/
theorem tyOf_spec {t : TypeId} {ag : Bool} {n : Nat} (h : tyOf P t = some (ag, n)) :
    ∃ i d, P.info? t = some i ∧ P.underlying t = some d ∧ i.size = n ∧ ag = isAggD d := by
  unfold tyOf at h
  split at h
  · rename_i i d h1 h2
    simp only [Option.some.injEq, Prod.mk.injEq] at h
    exact ⟨i, d, h1, h2, h.2, h.1.symm⟩
  · cases h

theorem run_loadVar {E : Env S} {φ : Phi} {M : Mem} {t : TypeId} {ag : Bool} {n k b off : Nat} {cs : List (TV S)} {tv : TV S} {w : World} (ht : tyOf P t = some (ag, n))
    (hc : takeCells ag n k cs = some tv) (hw : ∀ j x, cs[k + j]? = some x → ∃ v, w.cell? (at_ b (off + j)) = some v ∧ VR E φ M x v) :
    ∃ v, (loadVar t (at_ b off)).run P w = .ok v w ∧ VR E φ M tv v := by
  obtain ⟨i, d, h1, h2, h3, h4⟩ := tyOf_spec ht
  unfold loadVar
  rw [run_bind, run_isAgg t w h2]
  simp only []
  rw [← h4]
  cases ag with
  | false =>
    simp only [takeCells, Bool.false_eq_true, if_false] at hc
    obtain ⟨v, hv, hvr⟩ := hw 0 tv (by simpa using hc)
    exact ⟨v, by simp only [Bool.false_eq_true, if_false]; exact run_load _ _ (by simpa using hv), hvr⟩
  | true =>
    simp only [takeCells, if_true] at hc
    split at hc
    · rename_i hle
      simp only [Option.some.injEq] at hc
      subst hc
      have hall : ∀ j, j < n → ∃ v, w.cell? (at_ b (off + j)) = some v ∧ ∀ x, cs[k + j]? = some x → VR E φ M x v := by
        intro j hj
        obtain ⟨x, hx⟩ : ∃ x, cs[k + j]? = some x := ⟨_, List.getElem?_eq_getElem (by omega)⟩
        obtain ⟨v, hv, hvr⟩ := hw j x hx
        exact ⟨v, hv, fun y hy => by rw [hx] at hy; cases hy; exact hvr⟩
      let vs : List Value := (List.range n).map fun j => (w.cell? (at_ b (off + j))).getD undef
      have hvs : ∀ j v, vs[j]? = some v → w.cell? (at_ b (off + j)) = some v := by
        intro j v hj
        have hjn : j < n := by
          have := (List.getElem?_eq_some_iff.1 hj).1
          simpa [vs] using this
        obtain ⟨u, hu, _⟩ := hall j hjn
        simp [vs, hjn, hu] at hj
        rw [hu, hj]
      refine ⟨.agg vs.toArray, ?_, .agg (by simp [vs]; omega) fun j x v hx hv => ?_⟩
      · simp only [if_true]
        rw [run_bind, run_sizeOf t w h1]
        simp only []
        rw [run_bind, run_loadCells b off w vs _ (by simp [vs, h3]) hvs]
        rfl
      · have hj : j < n := by
          have := (List.getElem?_eq_some_iff.1 hx).1
          simp at this; omega
        have hx' : cs[k + j]? = some x := by
          rw [List.getElem?_take_of_lt hj, List.getElem?_drop] at hx; exact hx
        obtain ⟨u, hu, hvr⟩ := hall j hj
        have : w.cell? (at_ b (off + j)) = some v := hvs j v (by simpa using hv)
        rw [hu] at this
        cases this
        exact hvr x hx'
    · cases hc
end TE
