/- TE: rows of raw cells: slices of which the elements may hold names. -/
import Derived.Test.YtkhkbikglgpkoaaGreatTE13
import Derived.Test.YtkhkbikglgpkoaaGreatTEX
namespace TE
open Go
variable {S : Sig} {E : Env S}
section
variable {R : Type} {k : Eff S → Option R} {r : R} {t : Nat → TV S} {ob : Nat → Option (Obj S)} {base : Nat} {o : Oper}

theorem behind_raw {B : Base} {w : World} {φ : Phi} {M : Mem} {nm i k' s : Nat} {cs : List (TV S)} {u : Value} (hm : RelW E B ob w φ M) (ho : ob nm = some (.raw s cs)) (hu : VR E φ M (.ptr nm i k') u) :
    ∃ b off, u = .pointer (some (at_ b off)) ∧ ∀ j x, cs[i * s + k' + j]? = some x → ∃ v, w.cell? (at_ b (off + j)) = some v ∧ VR E φ M x v := by
  obtain ⟨g, hg, e⟩ := hu.ptr_inv
  obtain ⟨g', hg', hs, _, _, _, _, hcs⟩ := hm.objs nm _ ho
  rw [hg] at hg'; cases hg'
  refine ⟨_, _, e, fun j x hx => ?_⟩
  rw [hs]
  exact hcs _ x hx

/-- Cells of a raw row that are written. -/
theorem raw_write {φ : Phi} {M : Mem} {w : World} {nm s k' : Nat} {old cs : List (TV S)} {g : GI} {us : List Value} (hg : φ nm = some g) (hs : g.s = s) (hs1 : 1 ≤ s) (hL : g.L * g.s = old.length) (hle : g.L * g.s ≤ g.n)
    (hlive : ∀ j, j < g.n → Live w g.b j) (hcs : ∀ (j : Nat) (tv : TV S), old[j]? = some tv → ∃ v, w.cell? (at_ g.b j) = some v ∧ VR E φ M tv v) (hk : k' + cs.length ≤ old.length) (hul : us.length = cs.length)
    (h3 : ∀ (j : Nat) (tv : TV S) (u : Value), cs[j]? = some tv → us[j]? = some u → VR E φ M tv u) : ObjR E φ M (writeCells w g.b k' us) nm (.raw s (setCells old k' cs)) := by
  have hlv : ∀ j, j < us.length → Live w g.b (k' + j) := fun j hj => hlive _ (by omega)
  refine ⟨g, hg, hs, hs1, by rw [setCells_length]; exact hL, hle, fun j hj => live_write hlv (hlive j hj), fun j tv hj => ?_⟩
  rw [setCells_get _ _ _ _ hk] at hj
  split at hj
  · rename_i hr
    obtain ⟨u, hu⟩ : ∃ u, us[j - k']? = some u := ⟨_, List.getElem?_eq_getElem (by omega)⟩
    refine ⟨u, ?_, h3 _ tv u hj hu⟩
    have := writeCells_at us w g.b k' (fun i hi => (hlv i hi).1) _ u hu
    rw [show k' + (j - k') = j by omega] at this; exact this
  · rename_i hr
    obtain ⟨u, hu, hvr⟩ := hcs j tv hj
    refine ⟨u, ?_, hvr⟩
    by_cases hlo : j < k'
    · rw [writeCells_below _ w g.b k' j hlo]; exact hu
    · rw [writeCells_above _ w g.b k' j (by omega)]; exact hu

theorem ok_store_raw (hE : EnvOk E) {ty : TypeId} {x v : Operand} {ag : Bool} {n nm i k' s : Nat} {old : List (TV S)} (ho : o.op = .store ty x v) (ht : tyOf E.P ty = some (ag, n)) (hx : ev t x = .ptr nm i k') (hob : ob nm = some (.raw s old))
    (hlen : (cellsOf (ev t v)).length = n) (hal : (cellsOf (ev t v)).all aliveCell = true) (h1n : 1 ≤ n) (hk : i * s + k' + n ≤ old.length) :
    OpOK E o t ob base ⟨.undef, [nm], [(nm, .raw s (setCells old (i * s + k') (cellsOf (ev t v))))], base⟩ := by
  refine ⟨Nat.le_refl _, fun p hp => ?_, fun n h1 h2 => ?_, ?_⟩
  · simp only [List.mem_singleton] at hp; subst hp; exact .inr ⟨by simp, by simp [hob]⟩
  · simp only at h2; omega
  · intro B nt t' ob' a w φ M Q hd hev hrd hfr hB hrel
    have hx1 : VR E φ M (ev t x) (a.eval x) := hev x (by rw [ho]; simp [Op.operands])
    have hv1 : VR E φ M (ev t v) (a.eval v) := hev v (by rw [ho]; simp [Op.operands])
    rw [hx] at hx1
    obtain ⟨g, hg, e1⟩ := hx1.ptr_inv
    have hob' : ob' nm = some (.raw s old) := by rw [hrd nm (by simp)]; exact hob
    obtain ⟨g', hg', hs, hs1, hL, hle, hlive, hcs⟩ := hrel.mem.objs nm _ hob'
    rw [hg] at hg'; cases hg'
    have hd' : ev t v ≠ .dead := by intro e; rw [e] at hal; simp [cellsOf, aliveCell] at hal
    obtain ⟨h2, h3⟩ := VR.cells hd' hv1
    have hone : ∀ u ∈ (a.eval v).cells.toList, oneCell u = true := by
      intro u hu
      obtain ⟨i, hi⟩ := List.mem_iff_getElem?.1 hu
      have hi' : (a.eval v).cells[i]? = some u := by simpa using hi
      have hlt : i < (cellsOf (ev t v)).length := by rw [h2]; exact (Array.getElem?_eq_some_iff.1 hi').1
      have hy : (cellsOf (ev t v))[i]? = some (cellsOf (ev t v))[i] := List.getElem?_eq_getElem hlt
      exact oneCell_VR (h3 i _ u hy hi') (List.all_eq_true.1 hal _ (List.getElem_mem hlt))
    have hn0 : g.n ≠ 0 := by omega
    obtain ⟨dst, op', ty', pos, after, guard⟩ := o
    subst ho
    have hrun : (execOp a.eval ⟨dst, .store ty x v, ty', pos, after, guard⟩).run E.P w = .ok .skip (writeCells w g.b (i * s + k') (a.eval v).cells.toList) := by
      refine run_skip ?_
      rw [e1, hs]
      exact run_storeAt w ht (by omega) hone (fun j hj => hlive _ (by omega))
    refine upon_of_skip hrun ⟨φ, M, hrel.put hd (Phi.le_refl _) (Mem.le_refl _) (.pure .undef) ?_⟩
    rw [setAll_one]
    refine hrel.mem.write hE.toEncOk hg hob' (claim_raw hg hn0) (claim_raw' hg) _ _ ?_
    exact raw_write hg hs hs1 hL hle hlive hcs (by omega) (by simp; omega) fun j tv u h5 h6 => h3 j tv u h5 (by simpa using h6)

/-- Cells, loaded. -/
theorem load_cells {P : Program} {w : World} {φ : Phi} {M : Mem} {b off : Nat} {ys : List (TV S)} (f : ∀ (j : Nat) (tv : TV S), ys[j]? = some tv → ∃ v, w.cell? (at_ b (off + j)) = some v ∧ VR E φ M tv v) :
    ∃ us : List Value, (loadCells (at_ b off) ys.length).run P w = .ok us.toArray w ∧ us.length = ys.length ∧ ∀ (j : Nat) (tv : TV S), ys[j]? = some tv → ∃ v, us[j]? = some v ∧ VR E φ M tv v := by
  let us : List Value := (List.range ys.length).map fun p => (w.cell? (at_ b (off + p))).getD Go.undef
  have hget : ∀ (j : Nat) (tv : TV S), ys[j]? = some tv → ∃ v, us[j]? = some v ∧ w.cell? (at_ b (off + j)) = some v ∧ VR E φ M tv v := by
    intro j tv hj
    obtain ⟨v, h1, h2⟩ := f j tv hj
    have hlt := (List.getElem?_eq_some_iff.1 hj).1
    exact ⟨v, by simp [us, hlt, h1], h1, h2⟩
  refine ⟨us, run_loadCells b off w us _ (by simp [us]) (fun j v hj => ?_), by simp [us], fun j tv hj => ?_⟩
  · have hlt : j < ys.length := by have := (List.getElem?_eq_some_iff.1 hj).1; simpa [us] using this
    obtain ⟨v', h1, h2, _⟩ := hget j _ (List.getElem?_eq_getElem hlt)
    rw [hj] at h1; cases h1; exact h2
  · obtain ⟨v, h1, _, h2⟩ := hget j tv hj
    exact ⟨v, h1, h2⟩
theorem rawOf_ok {B : Base} {w : World} {φ : Phi} {M : Mem} {s n : Nat} {y : TV S} {ys : List (TV S)} {rd : List Nat} {u : Value} (hm : RelW E B ob w φ M) (h : rawOf ob s y = some (n, ys, rd)) (hu : VR E φ M y u) :
    ∃ us : List Value, (Builtin.lenOf u).run E.P w = .ok n w ∧ (Builtin.firstCells s n u).run E.P w = .ok us.toArray w ∧ us.length = n * s ∧ ys.length = n * s ∧ ∀ (j : Nat) (tv : TV S), ys[j]? = some tv → ∃ v, us[j]? = some v ∧ VR E φ M tv v := by
  unfold rawOf at h
  split at h
  · simp only [Option.some.injEq, Prod.mk.injEq] at h
    obtain ⟨rfl, rfl, _⟩ := h
    cases hu.nils
    exact ⟨[], rfl, rfl, by simp, by simp, fun j tv hj => by simp at hj⟩
  · rename_i nm off len
    split at h
    · rename_i s' cs hob
      split at h
      · rename_i hss
        subst hss
        simp only [Option.some.injEq, Prod.mk.injEq] at h
        obtain ⟨rfl, rfl, _⟩ := h
        obtain ⟨g, ad, cap, hg, rfl, hle, hL, _, had⟩ := hu.rs_inv
        obtain ⟨g', hg', hs, hs1, hLs, _, _, hcs⟩ := hm.objs nm _ hob
        rw [hg] at hg'; cases hg'
        have hyl : ((cs.drop (off * s')).take (len * s')).length = len * s' := by
          have : (off + len) * s' ≤ g.L * s' := Nat.mul_le_mul_right _ hL
          rw [hs] at hLs
          rw [Nat.add_mul] at this
          rw [List.length_take, List.length_drop]
          omega
        by_cases hc : len = 0
        · subst hc
          refine ⟨[], rfl, ?_, by simp, hyl, fun j tv hj => by simp at hj⟩
          simp only [Builtin.firstCells, Nat.zero_mul]
          rfl
        · obtain ⟨rfl, _⟩ := had.resolve_left (by omega)
          obtain ⟨us, h1, h2, h3⟩ := load_cells (E := E) (P := E.P) (φ := φ) (M := M) (w := w) (b := g.b) (off := off * g.s) (ys := (cs.drop (off * s')).take (len * s')) (fun j tv hj => by
            have hlt := (List.getElem?_eq_some_iff.1 hj).1
            rw [List.getElem?_take_of_lt (by omega), List.getElem?_drop] at hj
            rw [hs]
            exact hcs _ tv hj)
          rw [hyl] at h1 h2
          exact ⟨us, rfl, h1, h2, hyl, h3⟩
      · cases h
    · cases h
  · cases h
end
end TE
