/- TE: operations that make objects or write to them. -/
import Derived.Test.YtkhkbikglgpkoaaGreatTE9
namespace TE
open Go
variable {S : Sig} {E : Env S}

theorem setAll_append {α : Type} (f : Nat → Option α) (l1 l2 : List (Nat × α)) : setAll f (l1 ++ l2) = setAll (setAll f l1) l2 := by
  induction l1 generalizing f with
  | nil => rfl
  | cons p r ih => obtain ⟨n, x⟩ := p; exact ih _
theorem setAll_one {α : Type} (f : Nat → Option α) (n : Nat) (x : α) : setAll f [(n, x)] = setF f n (some x) := rfl
theorem setAll_not {α : Type} {n : Nat} : ∀ (l : List (Nat × α)) (f : Nat → Option α), n ∉ l.map (·.1) → setAll f l n = f n
  | [], f, _ => rfl
  | (m, x) :: r, f, h => by
    simp only [List.map_cons, List.mem_cons, not_or] at h
    show setAll (setF f m (some x)) r n = f n
    rw [setAll_not r _ h.2, setF_ne _ _ h.1]
theorem setAll_mem {α : Type} {n : Nat} : ∀ (l : List (Nat × α)) (f : Nat → Option α), n ∈ l.map (·.1) → ∃ x, (n, x) ∈ l ∧ setAll f l n = some x
  | [], f, h => by simp at h
  | (m, x) :: r, f, h => by
    show ∃ y, (n, y) ∈ (m, x) :: r ∧ setAll (setF f m (some x)) r n = some y
    by_cases hr : n ∈ r.map (·.1)
    · obtain ⟨y, h1, h2⟩ := setAll_mem r (setF f m (some x)) hr
      exact ⟨y, by simp [h1], h2⟩
    · simp only [List.map_cons, List.mem_cons] at h
      have hm : n = m := h.resolve_right hr
      subst hm
      exact ⟨x, by simp, by rw [setAll_not r _ hr, setF_self]⟩
theorem setAll_congr {α : Type} {n : Nat} (l : List (Nat × α)) {f g : Nat → Option α} (h : f n = g n) : setAll f l n = setAll g l n := by
  induction l generalizing f g with
  | nil => exact h
  | cons p r ih =>
    obtain ⟨m, x⟩ := p
    refine ih (f := setF f m (some x)) (g := setF g m (some x)) ?_
    by_cases e : n = m
    · subst e; rw [setF_self, setF_self]
    · rw [setF_ne _ _ e, setF_ne _ _ e]; exact h

/-- Rows of the call's own, frozen one by one. -/
theorem RelW.freezeList (hE : EncOk E) {B : Base} {w : World} {φ : Phi} : ∀ (l : List (Nat × Obj S)) (o : Nat → Option (Obj S)) (M : Mem), RelW E B o w φ M →
    (∀ p ∈ l, ∃ c xs, p.2 = .row c xs .ro ∧ (o p.1 = some (.row c xs .own) ∨ o p.1 = some (.row c xs .ro))) →
    (∀ p ∈ l, ∀ q ∈ l, p.1 = q.1 → p = q) → ∃ M', M.le M' ∧ RelW E B (setAll o l) w φ M'
  | [], o, M, h, _, _ => ⟨M, Mem.le_refl _, h⟩
  | (n, x) :: r, o, M, h, hl, hd => by
    obtain ⟨c, xs, hx, ho⟩ := hl (n, x) (by simp)
    simp only at hx ho
    subst hx
    have step : ∃ M', M.le M' ∧ RelW E B (setF o n (some (.row c xs .ro))) w φ M' := by
      rcases ho with ho | ho
      · exact h.freeze hE ho
      · refine ⟨M, Mem.le_refl _, ?_⟩
        have : setF o n (some (.row c xs .ro)) = o := by
          funext k
          by_cases e : k = n
          · subst e; rw [setF_self, ho]
          · rw [setF_ne _ _ e]
        rw [this]; exact h
    obtain ⟨M1, hM1, h1⟩ := step
    obtain ⟨M2, hM2, h2⟩ := RelW.freezeList hE r _ M1 h1 (fun p hp => by
      obtain ⟨c', xs', hx', ho'⟩ := hl p (by simp [hp])
      refine ⟨c', xs', hx', ?_⟩
      by_cases e : p.1 = n
      · have := hd p (by simp [hp]) (n, .row c xs .ro) (by simp) e
        rw [this] at hx' ⊢
        simp only at hx' ⊢
        rw [setF_self]; exact .inr (by rw [hx'])
      · rw [setF_ne _ _ e]; exact ho') (fun p hp q hq => hd p (by simp [hp]) q (by simp [hq]))
    exact ⟨M2, hM1.le_trans hM2, h2⟩

theorem freezes_mem {ob : Nat → Option (Obj S)} {ns : List Nat} {p : Nat × Obj S} (h : p ∈ freezes ob ns) : p.1 ∈ ns ∧ ∃ c xs, p.2 = .row c xs .ro ∧ ob p.1 = some (.row c xs .own) := by
  unfold freezes at h
  simp only [List.mem_filterMap] at h
  obtain ⟨n, hn, hp⟩ := h
  split at hp
  · rename_i c xs ho
    cases hp
    exact ⟨hn, c, xs, rfl, ho⟩
  · cases hp
theorem freezes_det {ob : Nat → Option (Obj S)} {ns : List Nat} (p : Nat × Obj S) (hp : p ∈ freezes ob ns) (q : Nat × Obj S) (hq : q ∈ freezes ob ns) (e : p.1 = q.1) : p = q := by
  obtain ⟨_, c, xs, h1, h2⟩ := freezes_mem hp
  obtain ⟨_, c', xs', h1', h2'⟩ := freezes_mem hq
  rw [e, h2'] at h2
  obtain ⟨a, x⟩ := p
  obtain ⟨a', x'⟩ := q
  simp only at h1 h1' e
  subst e; subst h1; subst h1'
  injection h2 with h2
  injection h2 with h3 h4
  subst h3
  have := eq_of_heq h4
  subst this
  rfl
theorem freezes_own {ob : Nat → Option (Obj S)} {ns : List Nat} {n : Nat} {c : S.K} {xs : List (S.El c)} (hn : n ∈ ns) (ho : ob n = some (.row c xs .own)) : (n, .row c xs .ro) ∈ freezes ob ns := by
  unfold freezes
  simp only [List.mem_filterMap]
  exact ⟨n, hn, by rw [ho]⟩

/-- Behind the freezing: whatever row a value goes by is one that does not change. -/
theorem freezes_after {ob ob' : Nat → Option (Obj S)} {ns : List Nat} {n : Nat} {c : S.K} {xs : List (S.El c)} {m : RM} (hn : n ∈ ns) (ho : ob n = some (.row c xs m)) (ho' : ob' n = ob n) :
    ∃ m', m' ≠ .own ∧ (m = .app → m' = .app) ∧ setAll ob' (freezes ob ns) n = some (.row c xs m') := by
  by_cases hm : m = .own
  · subst hm
    have := freezes_own hn ho
    obtain ⟨x, h1, h2⟩ := setAll_mem (freezes ob ns) ob' (List.mem_map_of_mem (f := Prod.fst) this)
    have := freezes_det _ h1 _ this rfl
    cases this
    exact ⟨.ro, by simp, by simp, h2⟩
  · refine ⟨m, hm, id, ?_⟩
    rw [setAll_not _ _ ?_, ho', ho]
    intro hc
    simp only [List.mem_map] at hc
    obtain ⟨p, hp, e⟩ := hc
    obtain ⟨_, c', xs', _, h2⟩ := freezes_mem hp
    rw [e, ho] at h2
    injection h2 with h2
    injection h2 with _ _ h5
    exact hm h5

theorem rowIn_of {B : Base} {o : Nat → Option (Obj S)} {w : World} {φ : Phi} {M : Mem} {nm : Nat} {c : S.K} {xs : List (S.El c)} {m : RM} (h : RelW E B o w φ M) (ho : o nm = some (.row c xs m)) (hm : m ≠ .own) :
    ∃ g, φ nm = some g ∧ g.L = xs.length ∧ g.s = E.sz c ∧ RowIn E M g.b g.s c xs := by
  obtain ⟨g, hg, hL, hs, _, hr⟩ := h.objs nm _ ho
  cases m with
  | own => exact absurd rfl hm
  | app => exact ⟨g, hg, hL, hs, hr.2.1⟩
  | ro => exact ⟨g, hg, hL, hs, hr⟩
/-- A row that is only appended to has no room as long as nothing is in it, where that is asked. -/
theorem rowTight {B : Base} {o : Nat → Option (Obj S)} {w : World} {φ : Phi} {M : Mem} {nm : Nat} {c : S.K} {xs : List (S.El c)} {m : RM} {g : GI} (h : RelW E B o w φ M) (ho : o nm = some (.row c xs m)) (hg : φ nm = some g) (hm : tok c xs = true ∨ m = .app) (ht : S.tight c = true) (hx : xs = []) : g.n = 0 := by
  rcases hm with hm | rfl
  · simp [tok, ht, hx] at hm
  · obtain ⟨g', hg', _, _, _, hr⟩ := h.objs nm _ ho
    rw [hg] at hg'; cases hg'
    exact hr.2.2 ht hx
theorem capZero {E : Env S} (hE : EncOk E) {g : GI} {c : S.K} {off cap : Nat} (hs : g.s = E.sz c) (hn : g.n = 0) {p : Prop} (h : cap = 0 ∨ (p ∧ (off + cap) * g.s ≤ g.n)) : cap = 0 := by
  rcases h with h | ⟨_, h⟩
  · exact h
  · have := hE.pos c
    rw [hn, hs] at h
    rcases Nat.mul_eq_zero.1 (Nat.le_zero.1 h) with h | h <;> omega

/-- A value without names, for one that may go by rows that do not change. -/
theorem pureOf_CR {B : Base} {o ob : Nat → Option (Obj S)} {w : World} {φ : Phi} {M : Mem} {tv tv' : TV S} {v : Value} (h : RelW E B o w φ M) (hp : pureOf ob tv = some tv')
    (hr : ∀ nm ∈ rowName tv, ∀ c xs m, ob nm = some (.row c xs m) → ∃ m', m' ≠ .own ∧ (m = .app → m' = .app) ∧ o nm = some (.row c xs m')) (hE : EncOk E) (hv : VR E φ M tv v) : CR E M tv' v := by
  unfold pureOf at hp
  split at hp
  · rename_i nm
    split at hp
    · rename_i c xs m ho
      split at hp
      rotate_left
      · cases hp
      rename_i htok
      cases hp
      obtain ⟨m', hm', hma, ho'⟩ := hr nm (by simp [rowName]) c xs m ho
      have htk : tok c xs = true ∨ m' = .app := by cases m <;> first | exact .inl htok | exact .inr (hma rfl)
      obtain ⟨g, hg, hL, hs, hin⟩ := rowIn_of h ho' hm'
      obtain ⟨g', hg', a, cap, rfl, hle, _, hcap⟩ := hv.slw_inv
      rw [hg] at hg'; cases hg'
      rw [hL]
      have := VR.tree_mk (E := E) (φ := φ) (M := M) (c := c) (xs := xs) (a := a) (cap := cap) (n := xs.length) g.b 0 rfl (by omega) (fun ht hx => capZero hE hs (rowTight h ho' hg htk ht hx) hcap) (hcap.imp id (fun e => by rw [e.1]; simp)) (fun i x j tv hi hj => by
        rw [← hs]; simpa using hin i x j tv hi hj)
      cases this with | pure c => exact c
    · cases hp
  · rename_i nm off len
    split at hp
    · rename_i c xs m ho
      split at hp
      rotate_left
      · cases hp
      rename_i htok
      cases hp
      obtain ⟨m', hm', _, ho'⟩ := hr nm (by simp [rowName]) c xs m ho
      obtain ⟨g, hg, hL, hs, hin⟩ := rowIn_of h ho' hm'
      obtain ⟨g', hg', a, cap, rfl, hle, hoff, hcap⟩ := hv.sl_inv
      rw [hg] at hg'; cases hg'
      have := VR.tree_mk (E := E) (φ := φ) (M := M) (c := c) (xs := (xs.drop off).take len) (a := a) (cap := cap) (n := len) g.b (off * g.s) (by simp; omega) (by omega) (fun ht hx => by simp [tok, ht, hx] at htok) (hcap.imp id (fun e => e.1)) (fun i x j tv hi hj => by
        have hlt : i < len := by have := (List.getElem?_eq_some_iff.1 hi).1; simp at this; omega
        rw [List.getElem?_take_of_lt hlt, List.getElem?_drop] at hi
        obtain ⟨u, hu, hc⟩ := hin _ x j tv hi hj
        exact ⟨u, by rw [← hu, ← hs]; congr 1; rw [Nat.add_mul], hc⟩)
      cases this with | pure c => exact c
    · cases hp
  all_goals first
    | (cases hp; done)
    | (cases hp; cases hv with | pure c => exact c)

theorem oneCell_of {M : Mem} {tv : TV S} {v : Value} (h : CR E M tv v) (ha : aliveCell tv = true) : oneCell v = true := by
  cases h <;> first | rfl | (simp [aliveCell] at ha)
theorem oneCell_VR {φ : Phi} {M : Mem} {tv : TV S} {v : Value} (h : VR E φ M tv v) (ha : aliveCell tv = true) : oneCell v = true := by
  cases h with
  | dead => simp [aliveCell] at ha
  | pure c => exact oneCell_of c ha
  | ptr hg => rfl
  | iptr => rfl
  | slw hg h => obtain ⟨a, cap, rfl, _⟩ := h; rfl
  | sl hg h => obtain ⟨a, cap, rfl, _⟩ := h; rfl
  | rs => rfl
  | map hg => rfl
  | fn => rfl
  | mv => rfl
  | agg => simp [aliveCell] at ha
  | tup => simp [aliveCell] at ha

section
variable {R : Type} {k : Eff S → Option R} {r : R} {t : Nat → TV S} {ob : Nat → Option (Obj S)} {base : Nat} {o : Oper}

theorem ok_newBox (hE : EnvOk E) {cs : List (TV S)} (hrun : ∀ (φ : Phi) (M : Mem) (a : Act) (w : World), (∀ x ∈ o.op.operands, VR E φ M (ev t x) (a.eval x)) →
    ∃ vs e, (execOp a.eval o).run E.P w = .ok (.value (.pointer (some (at_ w.heap.size 0)))) (w.alloc (.cells vs e)) ∧ Pair E φ M cs vs) : OpOK E o t ob base ⟨.ptr base 0 0, [], [(base, .box cs)], base + 1⟩ := by
  refine ⟨by simp, fun p hp => ?_, fun n h1 h2 => ?_, ?_⟩
  · simp only [List.mem_singleton] at hp; subst hp; exact .inl ⟨Nat.le_refl _, Nat.lt_succ_self _⟩
  · simp only at h2; simp; omega
  · intro B nt t' ob' a w φ M Q hd hev hrd hfr hB hrel
    obtain ⟨vs, e, hr, hp⟩ := hrun φ M a w hev
    refine upon_of_value hr ⟨setF φ base (some ⟨w.heap.size, 0, 0, vs.size, fun _ => false⟩), M, ?_⟩
    have hn : ob' base = none := hfr base (Nat.le_refl _) (Nat.lt_succ_self _)
    have hle : φ.le (setF φ base (some ⟨w.heap.size, 0, 0, vs.size, fun _ => false⟩)) := Phi.le_of <| by
      intro n' g' h'
      by_cases e : n' = base
      · subst e; rw [hrel.mem.fresh n' hn] at h'; cases h'
      · rw [setF_ne _ _ e]; exact h'
    have hnone : ∀ off, M w.heap.size off = none := by
      intro off
      cases hm : M w.heap.size off with
      | none => rfl
      | some v => have := size_of_cell (hrel.mem.mval _ _ _ hm); omega
    have hw := hrel.mem.new hE.toEncOk (x := .box cs) (vs := vs) (e := e) (g := ⟨w.heap.size, 0, 0, vs.size, fun _ => false⟩) hn hB rfl (Mem.le_refl M) (fun b off hd => absurd rfl hd) (fun off v hv => by rw [hnone off] at hv; cases hv)
      (fun b f off hc _ => by have := claim_block (setF_self φ base (some ⟨w.heap.size, 0, 0, vs.size, fun _ => false⟩)) hc; rw [this]; exact hnone off)
      ⟨_, setF_self _ _ _, fun j tv hj => by
        have hlt : j < vs.size := by rw [← hp.1]; exact (List.getElem?_eq_some_iff.1 hj).1
        have hv : vs[j]? = some vs[j] := Array.getElem?_eq_getElem hlt
        refine ⟨vs[j], ?_, ?_, (hp.2 j tv _ hj hv).mono hle (Mem.le_refl _)⟩
        · simp only [at_, World.cell?_alloc_new]; exact hv
        · simp only [at_, World.frozen?_alloc_new]⟩
    refine hrel.put hd hle (Mem.le_refl _) ?_ hw
    have := VR.ptr (E := E) (M := M) (i := 0) (k := 0) (setF_self φ base (some (⟨w.heap.size, 0, 0, vs.size, fun _ => false⟩ : GI)))
    simpa using this

theorem ok_alloc (hE : EnvOk E) {ty : TypeId} {z : List (TV S)} (ho : o.op = .alloc ty) (hz : zeroT E.P ty = some z) : OpOK E o t ob base ⟨.ptr base 0 0, [], [(base, .box z)], base + 1⟩ := by
  refine ok_newBox hE fun φ M a w hv => ?_
  obtain ⟨i, zv, hi, hzv, rfl⟩ := zeroT_spec hz
  obtain ⟨dst, op', ty', pos, after, guard⟩ := o
  subst ho
  refine ⟨zv.cells, ty, run_value ?_, zero_pair φ M zv⟩
  unfold Instr.alloc
  rw [run_bind, run_zeroValue ty w hi hzv]
  rfl

theorem ok_box (hE : EnvOk E) {ty : TypeId} {x : Operand} (ho : o.op = .box ty x) (hal : (cellsOf (ev t x)).all aliveCell = true) : OpOK E o t ob base ⟨.ptr base 0 0, [], [(base, .box (cellsOf (ev t x)))], base + 1⟩ := by
  refine ok_newBox hE fun φ M a w hv => ?_
  have h1 := hv x (by rw [ho]; simp [Op.operands])
  obtain ⟨dst, op', ty', pos, after, guard⟩ := o
  subst ho
  have hd : ev t x ≠ .dead := by intro e; rw [e] at hal; simp [cellsOf, aliveCell] at hal
  obtain ⟨h2, h3⟩ := VR.cells hd h1
  exact ⟨(a.eval x).cells, ty, run_value rfl, h2, h3⟩

/-! ### stores -/
theorem run_storeVar {P : Program} {ty : TypeId} {ag : Bool} {n b off : Nat} {v : Value} (w : World) (ht : tyOf P ty = some (ag, n)) (hn : v.cells.size = n) (h1 : ∀ u ∈ v.cells.toList, oneCell u = true) (hl : ∀ j, j < n → Live w b (off + j)) :
    (storeVar ty (at_ b off) v).run P w = .ok () (writeCells w b off v.cells.toList) := by
  obtain ⟨i, d, g1, g2, g3, _⟩ := tyOf_spec ht
  unfold storeVar
  rw [run_bind, run_sizeOf ty w g1]
  simp only []
  rw [if_neg (by rw [hn, g3]; simp)]
  rw [run_storeCells b off v.cells.toList w 0 h1 (fun j hj => by simpa using hl j (by simp at hj; omega))]
  simp

theorem run_storeAt {P : Program} {ty : TypeId} {ag : Bool} {n b off : Nat} {v : Value} (w : World) (ht : tyOf P ty = some (ag, n)) (hn : v.cells.size = n) (h1 : ∀ u ∈ v.cells.toList, oneCell u = true) (hl : ∀ j, j < n → Live w b (off + j)) :
    (Instr.storeAt ty (.pointer (some (at_ b off))) v).run P w = .ok () (writeCells w b off v.cells.toList) := by
  unfold Instr.storeAt
  rw [run_bind, run_sureAddr]
  exact run_storeVar w ht hn h1 hl

theorem ok_store_box (hE : EnvOk E) {ty : TypeId} {x v : Operand} {ag : Bool} {n nm k' : Nat} {old : List (TV S)} (ho : o.op = .store ty x v) (ht : tyOf E.P ty = some (ag, n)) (hx : ev t x = .ptr nm 0 k') (hob : ob nm = some (.box old))
    (hlen : (cellsOf (ev t v)).length = n) (hal : (cellsOf (ev t v)).all aliveCell = true) (hk : k' + n ≤ old.length) :
    OpOK E o t ob base ⟨.undef, [nm], [(nm, .box (setCells old k' (cellsOf (ev t v))))], base⟩ := by
  refine ⟨Nat.le_refl _, fun p hp => ?_, fun n h1 h2 => ?_, ?_⟩
  · simp only [List.mem_singleton] at hp; subst hp; exact .inr ⟨by simp, by simp [hob]⟩
  · simp only at h2; omega
  · intro B nt t' ob' a w φ M Q hd hev hrd hfr hB hrel
    have hx1 : VR E φ M (ev t x) (a.eval x) := hev x (by rw [ho]; simp [Op.operands])
    have hv1 : VR E φ M (ev t v) (a.eval v) := hev v (by rw [ho]; simp [Op.operands])
    rw [hx] at hx1
    obtain ⟨g, hg, e1⟩ := hx1.ptr_inv
    have hob' : ob' nm = some (.box old) := by rw [hrd nm (by simp)]; exact hob
    obtain ⟨g', hg', hcs⟩ := hrel.mem.objs nm _ hob'
    rw [hg] at hg'; cases hg'
    have hd' : ev t v ≠ .dead := by intro e; rw [e] at hal; simp [cellsOf, aliveCell] at hal
    obtain ⟨h2, h3⟩ := VR.cells hd' hv1
    have hone : ∀ u ∈ (a.eval v).cells.toList, oneCell u = true := by
      intro u hu
      obtain ⟨i, hi⟩ := List.mem_iff_getElem?.1 hu
      have hi' : (a.eval v).cells[i]? = some u := by simpa using hi
      have hlt : i < (cellsOf (ev t v)).length := by rw [h2]; exact (Array.getElem?_eq_some_iff.1 hi').1
      have hy : (cellsOf (ev t v))[i]? = some (cellsOf (ev t v))[i] := List.getElem?_eq_getElem hlt
      exact oneCell_VR (h3 i _ u hy hi') (List.all_eq_true.1 hal _ (List.getElem_mem hlt))
    have hlive : ∀ j, j < old.length → Live w g.b j := by
      intro j hj
      obtain ⟨u, hu, hf, _⟩ := hcs j old[j] (List.getElem?_eq_getElem hj)
      exact ⟨⟨u, hu⟩, hf⟩
    obtain ⟨dst, op', ty', pos, after, guard⟩ := o
    subst ho
    have hrun : (execOp a.eval ⟨dst, .store ty x v, ty', pos, after, guard⟩).run E.P w = .ok .skip (writeCells w g.b k' (a.eval v).cells.toList) := by
      refine run_skip ?_
      rw [e1, show 0 * g.s + k' = k' by omega]
      exact run_storeAt w ht (by omega) hone (fun j hj => hlive _ (by omega))
    refine upon_of_skip hrun ⟨φ, M, hrel.put hd (Phi.le_refl _) (Mem.le_refl _) (.pure .undef) ?_⟩
    rw [setAll_one]
    refine hrel.mem.write hE.toEncOk hg hob' (claim_box hg) (claim_box' hg) k' _ ⟨g, hg, fun j tv hj => ?_⟩
    rw [setCells_get _ _ _ _ (by omega)] at hj
    have hvl : (a.eval v).cells.toList.length = (cellsOf (ev t v)).length := by simp; omega
    split at hj
    · rename_i hr
      obtain ⟨u, hu⟩ : ∃ u, (a.eval v).cells.toList[j - k']? = some u := ⟨_, List.getElem?_eq_getElem (by omega)⟩
      refine ⟨u, ?_, by rw [writeCells_frozen]; exact (hlive j (by omega)).2, h3 _ tv u hj (by simpa using hu)⟩
      have := writeCells_at (a.eval v).cells.toList w g.b k' (fun i hi => (hlive _ (by omega)).1) _ u hu
      rw [show k' + (j - k') = j by omega] at this; exact this
    · rename_i hr
      obtain ⟨u, hu, hf, hvr⟩ := hcs j tv hj
      refine ⟨u, ?_, by rw [writeCells_frozen]; exact hf, hvr⟩
      by_cases hlo : j < k'
      · rw [writeCells_below _ w g.b k' j hlo]; exact hu
      · rw [writeCells_above _ w g.b k' j (by omega)]; exact hu

theorem mapM_get {α β : Type} {f : α → Option β} : ∀ {l : List α} {l' : List β}, l.mapM f = some l' → l.length = l'.length ∧ ∀ (i : Nat) (x : α), l[i]? = some x → ∃ y, l'[i]? = some y ∧ f x = some y
  | [], l', h => by simp only [List.mapM_nil, Option.pure_def, Option.some.injEq] at h; subst h; simp
  | x :: r, l', h => by
    rw [List.mapM_cons] at h
    cases hx : f x with
    | none => rw [hx] at h; cases h
    | some y =>
      rw [hx] at h
      simp only [Option.bind_eq_bind, Option.bind_some, Option.pure_def] at h
      cases hr : r.mapM f with
      | none => rw [hr] at h; cases h
      | some r' =>
        rw [hr] at h
        simp only [Option.bind_some, Option.some.injEq] at h
        subst h
        obtain ⟨h1, h2⟩ := mapM_get hr
        refine ⟨by simp [h1], fun i z hz => ?_⟩
        cases i with
        | zero => simp at hz; subst hz; exact ⟨y, by simp, hx⟩
        | succ i => simpa using h2 i z (by simpa using hz)

theorem ok_store_row (hE : EnvOk E) {ty : TypeId} {x v : Operand} {ag : Bool} {n nm i k' : Nat} {c : S.K} {xs : List (S.El c)} {z z' : S.El c} {cs' : List (TV S)} (ho : o.op = .store ty x v) (ht : tyOf E.P ty = some (ag, n)) (hx : ev t x = .ptr nm i k')
    (hob : ob nm = some (.row c xs .own)) (hz : xs[i]? = some z) (hcs : (cellsOf (ev t v)).mapM (pureOf ob) = some cs') (hdec : E.dec c (setCells (E.enc c z) k' cs') = some z') (hnm : nm ∉ (cellsOf (ev t v)).flatMap rowName)
    (hlen : (cellsOf (ev t v)).length = n) (hal : (cellsOf (ev t v)).all aliveCell = true) (hk : k' + n ≤ (E.enc c z).length) :
    OpOK E o t ob base ⟨.undef, nm :: (cellsOf (ev t v)).flatMap rowName, freezes ob ((cellsOf (ev t v)).flatMap rowName) ++ [(nm, .row c (xs.set i z') .own)], base⟩ := by
  refine ⟨Nat.le_refl _, fun p hp => ?_, fun n h1 h2 => ?_, ?_⟩
  · simp only [List.mem_append, List.mem_singleton] at hp
    rcases hp with hp | rfl
    · obtain ⟨h1, c', xs', _, h2⟩ := freezes_mem hp
      exact .inr ⟨by simp only [List.mem_cons]; exact .inr h1, by simp [h2]⟩
    · exact .inr ⟨by simp, by simp [hob]⟩
  · simp only at h2; omega
  · intro B nt t' ob' a w φ M Q hd hev hrd hfr hB hrel
    have hx1 : VR E φ M (ev t x) (a.eval x) := hev x (by rw [ho]; simp [Op.operands])
    have hv1 : VR E φ M (ev t v) (a.eval v) := hev v (by rw [ho]; simp [Op.operands])
    rw [hx] at hx1
    -- first the rows that go in are frozen
    have hag : ∀ n ∈ (cellsOf (ev t v)).flatMap rowName, ob' n = ob n := fun n hn => hrd n (by simp only [List.mem_cons]; exact .inr hn)
    obtain ⟨M1, hM1, hW1⟩ := hrel.mem.freezeList hE.toEncOk (freezes ob ((cellsOf (ev t v)).flatMap rowName)) _ M (fun p hp => by
      obtain ⟨h1, c', xs', h2, h3⟩ := freezes_mem hp
      exact ⟨c', xs', h2, .inl (by rw [hag _ h1]; exact h3)⟩) (fun p hp q hq e => freezes_det p hp q hq e)
    have hob1 : setAll ob' (freezes ob ((cellsOf (ev t v)).flatMap rowName)) nm = some (.row c xs .own) := by
      rw [setAll_not _ _ ?_, hrd nm (by simp)]
      · exact hob
      · intro hc
        simp only [List.mem_map] at hc
        obtain ⟨p, hp, e⟩ := hc
        exact hnm (e ▸ (freezes_mem hp).1)
    obtain ⟨g, hg, e1⟩ := hx1.ptr_inv
    obtain ⟨g', hg', hL, hs, hle, hlive, hrow⟩ := hW1.objs nm _ hob1
    rw [hg] at hg'; cases hg'
    have hle : g.L * g.s ≤ g.n := hle.resolve_left (by intro e; cases e)
    have hd' : ev t v ≠ .dead := by intro e; rw [e] at hal; simp [cellsOf, aliveCell] at hal
    obtain ⟨h2, h3⟩ := VR.cells hd' hv1
    have hone : ∀ u ∈ (a.eval v).cells.toList, oneCell u = true := by
      intro u hu
      obtain ⟨j, hj⟩ := List.mem_iff_getElem?.1 hu
      have hj' : (a.eval v).cells[j]? = some u := by simpa using hj
      have hlt : j < (cellsOf (ev t v)).length := by rw [h2]; exact (Array.getElem?_eq_some_iff.1 hj').1
      have hy : (cellsOf (ev t v))[j]? = some (cellsOf (ev t v))[j] := List.getElem?_eq_getElem hlt
      exact oneCell_VR (h3 j _ u hy hj') (List.all_eq_true.1 hal _ (List.getElem_mem hlt))
    have hi : i < xs.length := (List.getElem?_eq_some_iff.1 hz).1
    have hbig : ∀ j, j < E.sz c → i * g.s + j < g.n := by
      intro j hj
      have : (i + 1) * g.s ≤ g.L * g.s := Nat.mul_le_mul_right _ (by omega)
      rw [Nat.succ_mul, hs] at this
      rw [hs] at hle ⊢
      omega
    have hk2 : k' + n ≤ E.sz c := by rw [← hE.len c z]; exact hk
    obtain ⟨dst, op', ty', pos, after, guard⟩ := o
    subst ho
    have hrun : (execOp a.eval ⟨dst, .store ty x v, ty', pos, after, guard⟩).run E.P w = .ok .skip (writeCells w g.b (i * g.s + k') (a.eval v).cells.toList) := by
      refine run_skip ?_
      rw [e1]
      exact run_storeAt w ht (by omega) hone (fun j hj => by rw [Nat.add_assoc]; exact hlive _ (hbig _ (by omega)))
    have hn0 : g.n ≠ 0 := by have := hbig 0 (hE.pos c); omega
    refine upon_of_skip hrun ⟨φ, M1, hrel.put hd (Phi.le_refl _) hM1 (.pure .undef) ?_⟩
    rw [setAll_append, setAll_one]
    obtain ⟨hml, hmg⟩ := mapM_get hcs
    refine hW1.write hE.toEncOk hg hob1 (claim_own hg hn0) (claim_own' hg) _ _ ⟨g, hg, by simpa using hL, hs, .inr hle, fun j hj => ?_, fun i1 x1 j tv hi1 hj => ?_⟩
    · obtain ⟨⟨u, hu⟩, hf⟩ := hlive j hj
      refine ⟨?_, by rw [writeCells_frozen]; exact hf⟩
      by_cases hin : i * g.s + k' ≤ j ∧ j < i * g.s + k' + (a.eval v).cells.toList.length
      · obtain ⟨u', hu'⟩ : ∃ u', (a.eval v).cells.toList[j - (i * g.s + k')]? = some u' := ⟨_, List.getElem?_eq_getElem (by omega)⟩
        have := writeCells_at (a.eval v).cells.toList w g.b (i * g.s + k') (fun q hq => by
          simp at hq
          exact (hlive _ (by rw [Nat.add_assoc]; exact hbig _ (by omega))).1) _ u' hu'
        rw [show i * g.s + k' + (j - (i * g.s + k')) = j by omega] at this
        exact ⟨u', this⟩
      · by_cases hlo : j < i * g.s + k'
        · exact ⟨u, by rw [writeCells_below _ w g.b _ j hlo]; exact hu⟩
        · exact ⟨u, by rw [writeCells_above _ w g.b _ j (by omega)]; exact hu⟩
    · have hj2 : j < E.sz c := by rw [← hE.len c x1]; exact (List.getElem?_eq_some_iff.1 hj).1
      by_cases hii : i1 = i
      · subst hii
        rw [List.getElem?_set_self hi] at hi1
        cases hi1
        -- the cells of the element: old ones, and those written
        have hset := setCells_get cs' (E.enc c z) k' j (by omega)
        have hlen2 : (setCells (E.enc c z) k' cs').length = E.sz c := by rw [setCells_length, hE.len]
        obtain ⟨y, hy⟩ : ∃ y, (setCells (E.enc c z) k' cs')[j]? = some y := ⟨_, List.getElem?_eq_getElem (by omega)⟩
        rw [hset] at hy
        have key : ∃ u, (writeCells w g.b (i1 * g.s + k') (a.eval v).cells.toList).cell? (at_ g.b (i1 * g.s + j)) = some u ∧ CR E M1 y u := by
          split at hy
          · rename_i hr
            obtain ⟨u, hu⟩ : ∃ u, (a.eval v).cells.toList[j - k']? = some u := ⟨_, List.getElem?_eq_getElem (by simp; omega)⟩
            refine ⟨u, ?_, ?_⟩
            · have := writeCells_at (a.eval v).cells.toList w g.b (i1 * g.s + k') (fun q hq => by
                simp at hq
                exact (hlive _ (by rw [Nat.add_assoc]; exact hbig _ (by omega))).1) _ u hu
              rw [show i1 * g.s + k' + (j - k') = i1 * g.s + j by omega] at this; exact this
            · obtain ⟨p, hp⟩ : ∃ p, (cellsOf (ev t v))[j - k']? = some p := ⟨_, List.getElem?_eq_getElem (by omega)⟩
              obtain ⟨y', hy', hpy⟩ := hmg _ p hp
              rw [hy] at hy'; cases hy'
              refine pureOf_CR hW1 hpy (fun nm' hnm' c' xs' m' hm' => ?_) hE.toEncOk ((h3 _ p u hp (by simpa using hu)).mono (Phi.le_refl _) hM1)
              exact freezes_after (List.mem_flatMap.2 ⟨p, List.mem_of_getElem? hp, hnm'⟩) hm' (hag _ (List.mem_flatMap.2 ⟨p, List.mem_of_getElem? hp, hnm'⟩))
          · rename_i hr
            obtain ⟨u, hu, hc⟩ := hrow i1 z j y hz hy
            refine ⟨u, ?_, hc⟩
            by_cases hlo : j < k'
            · rw [writeCells_below _ w g.b _ _ (by omega)]; exact hu
            · rw [writeCells_above _ w g.b _ _ (by simp; omega)]; exact hu
        obtain ⟨u, hu, hc⟩ := key
        obtain ⟨tv', htv', hc'⟩ := hE.dec c _ _ M1 j y u hdec (by rw [hset]; exact hy) hc
        rw [hj] at htv'; cases htv'
        exact ⟨u, hu, hc'⟩
      · rw [List.getElem?_set_ne (Ne.symm hii)] at hi1
        obtain ⟨u, hu, hc⟩ := hrow i1 x1 j tv hi1 hj
        refine ⟨u, ?_, hc⟩
        rcases Nat.lt_or_gt_of_ne hii with hlt | hgt
        · have : (i1 + 1) * g.s ≤ i * g.s := Nat.mul_le_mul_right _ hlt
          rw [Nat.succ_mul] at this
          rw [writeCells_below _ w g.b _ _ (by rw [hs] at this ⊢; omega)]; exact hu
        · have : (i + 1) * g.s ≤ i1 * g.s := Nat.mul_le_mul_right _ hgt
          rw [Nat.succ_mul] at this
          rw [writeCells_above _ w g.b _ _ (by simp; rw [hs] at this ⊢; omega)]; exact hu
end
end TE
