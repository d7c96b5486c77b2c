/- TE: literals, make, append, pieces of rows of raw cells. -/
import Derived.Test.YtkhkbikglgpkoaaGreatTER
namespace TE
open Go
variable {S : Sig} {E : Env S}
section
variable {R : Type} {k : Eff S → Option R} {r : R} {t : Nat → TV S} {ob : Nat → Option (Obj S)} {base : Nat} {o : Oper}

/-- A new raw row in a new block. -/
theorem RelW.newRaw (hE : EncOk E) {B : Base} {ob : Nat → Option (Obj S)} {w : World} {φ : Phi} {M : Mem} (h : RelW E B ob w φ M) {nm : Nat} (hn : ob nm = none) (hB : B.m ≤ nm) {s L : Nat} {cs : List (TV S)} {vs : Array Value} {e : TypeId} (hs1 : 1 ≤ s)
    (hlen : cs.length = L * s) (hfit : cs.length ≤ vs.size) (hv : ∀ (j : Nat) (tv : TV S), cs[j]? = some tv → ∃ v, vs[j]? = some v ∧ VR E φ M tv v) :
    φ.le (setF φ nm (some ⟨w.heap.size, s, L, vs.size, fun _ => false⟩)) ∧ RelW E B (setF ob nm (some (.raw s cs))) (w.alloc (.cells vs e)) (setF φ nm (some ⟨w.heap.size, s, L, vs.size, fun _ => false⟩)) M := by
  have hnone := mem_none h
  have hle := le_setF h hn (⟨w.heap.size, s, L, vs.size, fun _ => false⟩ : GI)
  refine ⟨hle, h.new hE (g := ⟨w.heap.size, s, L, vs.size, fun _ => false⟩) hn hB rfl (Mem.le_refl _) (fun b off hd => absurd rfl hd) (fun off v hv => by rw [hnone off] at hv; cases hv)
      (fun b f off hc _ => by have := claim_block (setF_self φ nm (some (⟨w.heap.size, s, L, vs.size, fun _ => false⟩ : GI))) hc; rw [this]; exact hnone off)
      ⟨_, setF_self _ _ _, rfl, hs1, hlen.symm, by simp only; omega, fun j hj => ⟨⟨vs[j], by simp only [at_, World.cell?_alloc_new]; exact Array.getElem?_eq_getElem hj⟩, by simp only [at_, World.frozen?_alloc_new]⟩, fun j tv hj => ?_⟩⟩
  obtain ⟨v, h1, h2⟩ := hv j tv hj
  exact ⟨v, by simp only [at_, World.cell?_alloc_new]; exact h1, h2.mono hle (Mem.le_refl _)⟩

theorem ok_rawBuild {ty e : TypeId} {n : Nat} {ps : Array (Nat × Operand)} (hE : EnvOk E) (ho : o.op = .buildSlice ty n ps) (hu : E.P.underlying ty = some (.slice e))
    (h : rawBuild E base e n (ps.toList.map (·.1)) (ps.toList.map fun p => ev t p.2) k = some r) : ∃ e', k e' = some r ∧ OpOK E o t ob base e' := by
  unfold rawBuild at h
  split at h
  · rename_i s z he
    obtain ⟨i, zv, hi, hs, hs1, hs2, _, hzv, _, _⟩ := rawEl_spec he
    split at h
    · rename_i hc
      obtain ⟨⟨hps, hn⟩, hal⟩ := hc
      refine ⟨_, h, by simp, fun p hp => ?_, fun n h1 h2 => ?_, ?_⟩
      · simp only [List.mem_singleton] at hp; subst hp; exact .inl ⟨Nat.le_refl _, Nat.lt_succ_self _⟩
      · simp only at h2; simp; omega
      · intro B nt t' ob' a w φ M Q hd hev hrd hfr hB hrel
        have hv' : ∀ p ∈ ps.toList, VR E φ M (ev t p.2) (a.eval p.2) := fun p hp => hev p.2 (by rw [ho]; simp [Op.operands]; exact ⟨p.1, by simpa using hp⟩)
        have hlen : ps.toList.length = n := by have := congrArg List.length hps; simpa using this
        have hal' : ∀ p ∈ ps.toList, (cellsOf (ev t p.2)).length = s ∧ (cellsOf (ev t p.2)).all aliveCell = true := by
          intro p hp
          have := List.all_eq_true.1 hal (ev t p.2) (List.mem_map.2 ⟨p, hp, rfl⟩)
          simp only [Bool.and_eq_true, decide_eq_true_eq] at this
          exact this
        have hcell : ∀ p ∈ ps.toList, (cellsOf (ev t p.2)).length = (a.eval p.2).cells.size ∧ ∀ (j : Nat) (tv : TV S) (u : Value), (cellsOf (ev t p.2))[j]? = some tv → (a.eval p.2).cells[j]? = some u → VR E φ M tv u := by
          intro p hp
          have hd' : ev t p.2 ≠ .dead := by intro e; have := (hal' p hp).2; rw [e] at this; simp [cellsOf, aliveCell] at this
          exact VR.cells hd' (hv' p hp)
        let us : List Value := ps.toList.flatMap fun p => (a.eval p.2).cells.toList
        have hcl : ∀ p ∈ ps.toList, ((a.eval p.2).cells.toList).length = s := by
          intro p hp
          have := (hcell p hp).1
          rw [(hal' p hp).1] at this
          simp; omega
        have husl : us.length = n * s := by rw [← hlen]; exact flat_len _ _ _ hcl
        obtain ⟨cells, hf1, hf2, hf3⟩ := fill_rows i.size (ps.toList.map fun p => (p.1, a.eval p.2)) 0 ((Array.range (n * i.size)).map ((if n * i.size = 0 then #[] else zv.cells)[· % (if n * i.size = 0 then #[] else zv.cells).size]!)) (by
            rw [List.map_map, show ((fun x : Nat × Value => x.1) ∘ fun p : Nat × Operand => (p.1, a.eval p.2)) = fun p => p.1 from rfl, hps]
            rw [List.length_map, hlen, List.range_eq_range']) (by
            intro q hq
            simp only [List.mem_map] at hq
            obtain ⟨p, hp, rfl⟩ := hq
            have := hcl p hp
            simp at this; rw [hs]; exact this) (by simp [hlen])
        have hsz : cells.size = n * s := by rw [hf2]; simp [hs]
        have hpre : ∀ p : Nat, p < n * s → cells[p]? = us[p]? := by
          intro p hlt
          rw [hf3 p, if_pos (by simp [hlen, hs]; exact hlt)]
          rw [Nat.zero_mul, Nat.sub_zero, List.flatMap_map]
        have hl1 : ((ps.toList.map fun p => ev t p.2).flatMap cellsOf).length = n * s := by
          rw [List.flatMap_map, ← hlen]
          exact flat_len _ s _ (fun p hp => (hal' p hp).1)
        have hpair : ∀ (j : Nat) (tv : TV S), ((ps.toList.map fun p => ev t p.2).flatMap cellsOf)[j]? = some tv → ∃ v, cells[j]? = some v ∧ VR E φ M tv v := by
          intro j tv hj
          have hjn : j < n * s := by rw [← hl1]; exact (List.getElem?_eq_some_iff.1 hj).1
          have hq : j / s < n := by rw [Nat.div_lt_iff_lt_mul hs1]; exact hjn
          have hr : j % s < s := Nat.mod_lt _ hs1
          have hjq : j = j / s * s + j % s := by rw [Nat.mul_comm]; exact (Nat.div_add_mod j s).symm
          obtain ⟨p, hp⟩ : ∃ p, ps.toList[j / s]? = some p := ⟨_, List.getElem?_eq_getElem (by omega)⟩
          have g1 := flat_get (fun p : Nat × Operand => cellsOf (ev t p.2)) s ps.toList (fun p hp => (hal' p hp).1) (j / s) (j % s) p hp hr
          have g2 := flat_get (fun p : Nat × Operand => (a.eval p.2).cells.toList) s ps.toList hcl (j / s) (j % s) p hp hr
          rw [← hjq] at g1 g2
          rw [List.flatMap_map, g1] at hj
          have hu2 : ∃ u, (a.eval p.2).cells.toList[j % s]? = some u := ⟨_, List.getElem?_eq_getElem (by rw [hcl p (List.mem_of_getElem? hp)]; exact hr)⟩
          obtain ⟨u, hu2⟩ := hu2
          refine ⟨u, by rw [hpre j hjn]; exact g2.trans hu2, (hcell p (List.mem_of_getElem? hp)).2 (j % s) tv u hj (by simpa using hu2)⟩
        have hbig : ¬ n * i.size > 2 ^ 24 := by
          rw [hs]
          have : n * s ≤ 1000 * 2 ^ 11 := Nat.mul_le_mul hn hs2
          omega
        have hrun : (Instr.buildSlice ty n (ps.map fun p => (p.1, a.eval p.2))).run E.P w = .ok (.slice (some (at_ w.heap.size 0)) n n) (w.alloc (.cells cells e)) := by
          unfold Instr.buildSlice
          rw [run_bind, run_underlying ty w hu]
          simp only []
          rw [run_bind, run_sizeOf e w hi]
          simp only [hbig, if_false]
          have : (ps.map fun p => (p.1, a.eval p.2)).toList = ps.toList.map fun p => (p.1, a.eval p.2) := by simp
          by_cases h0 : n * i.size = 0
          · rw [if_pos h0] at hf1 ⊢
            simp only [run_bind, run_pure, this, hf1]
            rfl
          · rw [if_neg h0] at hf1 ⊢
            simp only [run_bind, run_pure, run_zeroValue e w hi hzv, this, hf1]
            rfl
        obtain ⟨dst, op', ty', pos, after, guard⟩ := o
        subst ho
        have hn : ob' base = none := hfr base (Nat.le_refl _) (Nat.lt_succ_self _)
        obtain ⟨hle, hw⟩ := hrel.mem.newRaw hE.toEncOk (e := e) hn hB hs1 hl1 (by rw [hl1, hsz]; exact Nat.le_refl _) hpair
        refine upon_of_value (run_value hrun) ⟨_, M, hrel.put hd hle (Mem.le_refl _) (.rs (setF_self _ _ _) (Nat.le_refl _) (by simp) (by simp) (.inr ⟨by simp, by simp [hsz]⟩)) ?_⟩
        rw [setAll_one]; exact hw
    · cases h
  · cases h

theorem repC_len (z : List (TV S)) : ∀ n, (repC n z).length = n * z.length
  | 0 => by simp [repC]
  | n + 1 => by simp [repC, repC_len z n, Nat.succ_mul]; omega
theorem repC_get (z : List (TV S)) : ∀ (n j : Nat), j < n * z.length → (repC n z)[j]? = z[j % z.length]?
  | 0, j, h => by simp at h
  | n + 1, j, h => by
    simp only [repC]
    by_cases hj : j < z.length
    · rw [List.getElem?_append_left hj, Nat.mod_eq_of_lt hj]
    · rw [List.getElem?_append_right (by omega), repC_get z n (j - z.length) (by rw [Nat.succ_mul] at h; omega)]
      rw [Nat.mod_eq_sub_mod (by omega : z.length ≤ j)]
theorem zero_cells {φ : Phi} {M : Mem} {zv : Value} (hal : (zv.cells.toList.map (ofVal (S := S))).all aliveCell = true) (j : Nat) (tv : TV S) (h : (zv.cells.toList.map (ofVal (S := S)))[j]? = some tv) : ∃ u, zv.cells[j]? = some u ∧ VR E φ M tv u ∧ oneCell u = true := by
  rw [List.getElem?_map] at h
  obtain ⟨u, hu, rfl⟩ := Option.map_eq_some_iff.1 h
  have ha := List.all_eq_true.1 hal (ofVal u) (List.mem_of_getElem? (by rw [List.getElem?_map, hu]; rfl))
  have hc : VR E φ M (ofVal u) u := .pure (ofVal_CR E M u ha)
  exact ⟨u, by simpa using hu, hc, oneCell_VR hc ha⟩

theorem ok_rawMake (hE : EnvOk E) {ty e : TypeId} {l cp : Operand} {n m : Int} (ho : o.op = .makeSlice ty l cp) (hu : E.P.underlying ty = some (.slice e)) (hl : ev t l = .int .i64 n) (hm : ev t cp = .int .i64 m)
    (h : rawMake E base e n m k = some r) : ∃ e', k e' = some r ∧ OpOK E o t ob base e' := by
  unfold rawMake at h
  split at h
  · rename_i s z he
    obtain ⟨i, zv, hi, hs, hs1, hs2, hb, hzv, hzs, rfl⟩ := rawEl_spec he
    split at h
    · rename_i hc
      obtain ⟨⟨h0, h1, h2⟩, hal⟩ := hc
      refine ⟨_, h, by simp, fun p hp => ?_, fun n h1 h2 => ?_, ?_⟩
      · simp only [List.mem_singleton] at hp; subst hp; exact .inl ⟨Nat.le_refl _, Nat.lt_succ_self _⟩
      · simp only at h2; simp; omega
      · intro B nt t' ob' a w φ M Q hd hev hrd hfr hB hrel
        have vl : VR E φ M (ev t l) (a.eval l) := hev l (by rw [ho]; simp [Op.operands])
        have vm : VR E φ M (ev t cp) (a.eval cp) := hev cp (by rw [ho]; simp [Op.operands])
        rw [hl] at vl; rw [hm] at vm
        have el := vl.int
        have em := vm.int
        have hnone : ob' base = none := hfr base (Nat.le_refl _) (Nat.lt_succ_self _)
        have hzl : (zv.cells.toList.map (ofVal (S := S))).length = s := by simp [hzs]
        let cells : Array Value := (Array.range (m.toNat * i.size)).map ((if m.toNat * i.size = 0 then #[] else zv.cells)[· % (if m.toNat * i.size = 0 then #[] else zv.cells).size]!)
        have hcell : ∀ p, p < m.toNat * s → cells[p]? = zv.cells[p % s]? := by
          intro p hp
          have h3 : ¬ m.toNat * i.size = 0 := by rw [hs]; omega
          simp only [cells, if_neg h3]
          rw [Array.getElem?_map, Array.getElem?_range, if_pos (by rw [hs]; exact hp)]
          simp only [Option.map_some, hzs]
          have hlt : p % s < zv.cells.size := by rw [hzs]; exact Nat.mod_lt _ hs1
          rw [getElem!_pos zv.cells _ hlt, Array.getElem?_eq_getElem hlt]
        have hcs : cells.size = m.toNat * s := by simp [cells, hs]
        have hnm : n.toNat * s ≤ m.toNat * s := Nat.mul_le_mul_right _ (by omega)
        have hlen : (repC n.toNat (zv.cells.toList.map (ofVal (S := S)))).length = n.toNat * s := by rw [repC_len, hzl]
        obtain ⟨hle, hw⟩ := hrel.mem.newRaw hE.toEncOk (vs := cells) (e := e) hnone hB hs1 hlen (by rw [hlen, hcs]; exact hnm) (fun j tv hj => by
          have hlt : j < n.toNat * s := by rw [← hlen]; exact (List.getElem?_eq_some_iff.1 hj).1
          rw [repC_get _ _ _ (by rw [hzl]; exact hlt), hzl] at hj
          obtain ⟨u, h3, h4, _⟩ := zero_cells (E := E) (φ := φ) (M := M) hal _ tv hj
          exact ⟨u, by rw [hcell j (by omega)]; exact h3, h4⟩)
        have hrun : (Instr.makeSlice ty (.int .i64 n) (.int .i64 m)).run E.P w = .ok (.slice (some (at_ w.heap.size 0)) n.toNat m.toNat) (w.alloc (.cells cells e)) := by
          unfold Instr.makeSlice
          rw [run_bind, run_underlying ty w hu]
          simp only []
          rw [run_bind, show (asInt (.int .i64 n)).run E.P w = .ok n w from rfl]
          simp only []
          rw [run_bind, show (asInt (.int .i64 m)).run E.P w = .ok m w from rfl]
          simp only []
          rw [run_bind, run_typeInfo e w hi]
          simp only []
          rw [IntWalk.i64_in n (by omega), IntWalk.i64_in m (by omega)]
          have hbm : (i.bytes : Int) * m ≤ 2 ^ 48 := by
            have a1 : (i.bytes : Int) ≤ 2 ^ 11 := by omega
            have a2 : (i.bytes : Int) * m ≤ 2 ^ 11 * m := Int.mul_le_mul_of_nonneg_right a1 (by omega)
            omega
          rw [if_neg (by simp; omega)]
          rw [run_bind, run_askRoom]
          simp only []
          rw [run_bind, run_sizeOf e w hi]
          simp only []
          by_cases h0 : m.toNat * i.size = 0
          · simp only [cells, if_pos h0, run_bind, run_pure]
            rfl
          · simp only [cells, if_neg h0, run_bind, run_pure, run_zeroValue e w hi hzv]
            rfl
        obtain ⟨dst, op', ty', pos, after, guard⟩ := o
        subst ho
        refine upon_of_value (run_value (by rw [el, em]; exact hrun)) ⟨_, M, hrel.put hd hle (Mem.le_refl _) (.rs (setF_self _ _ _) (by omega) (by simp) (by simp; omega) (.inr ⟨by simp, by simp [hcs]⟩)) ?_⟩
        rw [setAll_one]; exact hw
    · cases h
  · cases h

theorem ok_rawClear (hE : EnvOk E) {x : Operand} {args : Array Operand} {ts : Array TypeId} {e : TypeId} (ho : o.op = .call { callee := .builtin .clear, args, argTypes := ts }) (ha : args.toList = [x])
    (hu : (ts[0]?).bind E.P.underlying = some (.slice e)) (h : rawClear E ob base e (ev t x) k = some r) : ∃ e', k e' = some r ∧ OpOK E o t ob base e' := by
  obtain ⟨ty, ht, hu'⟩ : ∃ ty, ts[0]? = some ty ∧ E.P.underlying ty = some (.slice e) := by
    cases ht : ts[0]? with
    | none => rw [ht] at hu; cases hu
    | some ty => rw [ht] at hu; exact ⟨ty, rfl, hu⟩
  have hargs : args = #[x] := by rw [← Array.toArray_toList (xs := args), ha]
  subst hargs
  unfold rawClear at h
  split at h
  rotate_left
  · cases h
  rename_i s z he
  obtain ⟨i, zv, hi, hs, hs1, hs2, hb, hzv, hzs, rfl⟩ := rawEl_spec he
  split at h
  rotate_left
  · rename_i nm off len hx
    split at h
    rotate_left
    · cases h
    rename_i s' cs hob
    split at h
    rotate_left
    · cases h
    rename_i hc
    obtain ⟨rfl, hal, hL0, hl0⟩ := hc
    refine ⟨_, h, Nat.le_refl _, fun p hp => ?_, fun n h1 h2 => ?_, ?_⟩
    · simp only [List.mem_singleton] at hp; subst hp
      exact .inr ⟨by simp, by simp [hob]⟩
    · simp only at h2; omega
    · intro B nt t' ob' a w φ M Q hd hev hrd hfr hB hrel
      have hx1 := hev x (by rw [ho]; simp [Op.operands, Call.operands])
      rw [hx] at hx1
      obtain ⟨g, ad, cap, hg, e2, hle0, hL1, hL2, had⟩ := hx1.rs_inv
      obtain ⟨rfl, _⟩ := had.resolve_left (by omega)
      have hob1 : ob' nm = some (.raw s' cs) := by rw [hrd nm (by simp)]; exact hob
      obtain ⟨g', hg', hgs, _, hL, hle, hlive, hcs⟩ := hrel.mem.objs nm _ hob1
      rw [hg] at hg'; cases hg'
      have hzl : (zv.cells.toList.map (ofVal (S := S))).length = s' := by simp [hzs]
      have hcsz : (Builtin.zeroCells zv.cells len).size = len * s' := by rw [zeroCells_size, hzs]
      have hcell : ∀ p, p < len * s' → (Builtin.zeroCells zv.cells len)[p]? = zv.cells[p % s']? := by
        intro p hp
        unfold Builtin.zeroCells
        rw [Array.getElem?_map, Array.getElem?_range, if_pos (by rw [hzs]; exact hp)]
        simp only [Option.map_some, hzs]
        have hlt : p % s' < zv.cells.size := by rw [hzs]; exact Nat.mod_lt _ hs1
        rw [getElem!_pos zv.cells _ hlt, Array.getElem?_eq_getElem hlt]
      have hone : ∀ u ∈ (Builtin.zeroCells zv.cells len).toList, oneCell u = true := by
        intro u hu
        obtain ⟨p, hp⟩ := List.mem_iff_getElem?.1 hu
        have hp' : (Builtin.zeroCells zv.cells len)[p]? = some u := by simpa using hp
        have hlt : p < len * s' := by rw [← hcsz]; exact (Array.getElem?_eq_some_iff.1 hp').1
        rw [hcell p hlt] at hp'
        obtain ⟨u', h5, _, h6⟩ := zero_cells (E := E) (φ := φ) (M := M) hal (p % s') _ (by rw [List.getElem?_map, Array.getElem?_toList, hp']; rfl)
        rw [hp'] at h5; cases h5; exact h6
      have hmul : off * s' + len * s' ≤ cs.length := by rw [← Nat.add_mul]; exact hL0
      have hlv : ∀ j, j < (Builtin.zeroCells zv.cells len).toList.length → Live w g.b (off * g.s + 0 + j) := by
        intro j hj
        rw [Array.length_toList, hcsz] at hj
        rw [hgs]
        exact hlive _ (by omega)
      have hrun : (Builtin.clear_ ts ty #[a.eval x]).run E.P w = .ok (.tuple #[]) (writeCells w g.b (off * g.s) (Builtin.zeroCells zv.cells len).toList) := by
        obtain ⟨m, rfl⟩ : ∃ m, len = m + 1 := ⟨len - 1, by omega⟩
        unfold Builtin.clear_
        rw [e2]
        simp only [ht, show (#[Value.slice (some (at_ g.b (off * g.s))) (m + 1) cap] : Array Value)[0]? = some (Value.slice (some (at_ g.b (off * g.s))) (m + 1) cap) from rfl, run_bind, run_underlying ty w hu']
        simp only [run_zeroValue e w hi hzv, run_bind]
        rw [run_storeCells g.b (off * g.s) _ w 0 hone hlv]
        rfl
      obtain ⟨dst, op', ty', pos, after, guard⟩ := o
      subst ho
      have hp : 0 < len * s' := Nat.mul_pos (by omega) hs1
      have hn0 : g.n ≠ 0 := by omega
      refine upon_of_value (v := .tuple #[]) (w' := writeCells w g.b (off * g.s) (Builtin.zeroCells zv.cells len).toList) (by
        rw [run_builtin, show Array.map a.eval #[x] = #[a.eval x] by simp]
        exact run_value (s := Builtin.clear_ ts ty' #[a.eval x]) hrun) ⟨φ, M, hrel.put hd (Phi.le_refl _) (Mem.le_refl _) (.tup rfl (fun i tv v h => by simp at h)) ?_⟩
      rw [setAll_one]
      have hwl : (Builtin.zeroCells zv.cells len).toList.length = len * s' := by rw [Array.length_toList, hcsz]
      have hrl : (repC len (zv.cells.toList.map (ofVal (S := S)))).length = len * s' := by rw [repC_len, hzl]
      refine hrel.mem.write hE.toEncOk hg hob1 (claim_raw hg hn0) (claim_raw' hg) _ _ ?_
      rw [hgs]
      refine raw_write hg hgs hs1 hL hle hlive hcs (by omega) (by omega) fun j tv u h5 h6 => ?_
      have hj : j < len * s' := by rw [← hrl]; exact (List.getElem?_eq_some_iff.1 h5).1
      rw [repC_get _ _ _ (by rw [hzl]; exact hj), hzl] at h5
      rw [Array.getElem?_toList, hcell j hj] at h6
      obtain ⟨u', h7, h8, _⟩ := zero_cells (E := E) (φ := φ) (M := M) hal _ tv h5
      rw [h6] at h7; cases h7; exact h8
  · cases h
  · rename_i hx
    refine ⟨_, h, OpOK.value fun B nt t' ob' a w φ M hv hrd hm => ⟨.tuple #[], ?_, .tup rfl (fun i tv v h => by simp at h)⟩⟩
    have hx1 := hv x (by rw [ho]; simp [Op.operands, Call.operands])
    rw [hx] at hx1
    have e1 := hx1.nils
    obtain ⟨dst, op', ty', pos, after, guard⟩ := o
    subst ho
    rw [run_builtin, show Array.map a.eval #[x] = #[a.eval x] by simp]
    refine run_value (s := Builtin.clear_ ts ty' #[a.eval x]) ?_
    unfold Builtin.clear_
    rw [e1]
    simp only [ht, show (#[Value.slice none 0 0] : Array Value)[0]? = some (Value.slice none 0 0) from rfl, run_bind, run_underlying ty w hu']
    rfl

theorem run_sliceB {P : Program} {lo hi mx : Option Value} {l h m : Int} {len cap : Nat} (isS : Bool) (w : World) (hl : BoundIs lo 0 l) (hh : BoundIs hi len h) (hm : (mx = none ∧ m = cap) ∨ ((∃ q, mx = some (.int q m)) ∧ hi ≠ none)) (h0 : 0 ≤ l) (h1 : l ≤ h) (h2 : h ≤ m) (h3 : m ≤ cap) :
    (Instr.sliceBounds isS len cap lo hi mx).run P w = .ok (l.toNat, h.toNat, m.toNat) w := by
  unfold Instr.sliceBounds
  rcases hm with ⟨rfl, rfl⟩ | ⟨⟨q3, rfl⟩, hn⟩
  · rcases hl with ⟨rfl, rfl⟩ | ⟨q, rfl⟩ <;> rcases hh with ⟨rfl, rfl⟩ | ⟨q', rfl⟩
    · simp
    · simp only [run_bind, run_pure, run_sliceBound (v := .int q' h) (q := q') (n := h) _ w rfl (by omega) h2]
      rfl
    · simp only [run_bind, run_pure]
      rw [run_sliceBound (v := .int q l) (q := q) (n := l) _ w rfl h0 (by omega)]
      simp
    · simp only [run_bind, run_pure, run_sliceBound (v := .int q' h) (q := q') (n := h) _ w rfl (by omega) h2]
      rw [run_sliceBound (v := .int q l) (q := q) (n := l) _ w rfl h0 (by omega)]
      rfl
  · rcases hh with ⟨rfl, _⟩ | ⟨q', rfl⟩
    · exact absurd rfl hn
    · have e1 := fun c => run_sliceBound (P := P) (v := .int q3 m) (q := q3) (n := m) (y := cap) c w rfl (by omega) h3
      have e2 := fun c => run_sliceBound (P := P) (v := .int q' h) (q := q') (n := h) (y := m.toNat) c w rfl (by omega) (by omega)
      rcases hl with ⟨rfl, rfl⟩ | ⟨q, rfl⟩
      · simp only [run_bind, run_pure, e1, e2]
        rfl
      · have e3 := fun c => run_sliceBound (P := P) (v := .int q l) (q := q) (n := l) (y := h.toNat) c w rfl h0 (by omega)
        simp only [run_bind, run_pure, e1, e2, e3]
theorem run_sliceCut {P : Program} {ty e : TypeId} {i : TypeInfo} {a : Option Addr} {lo hi mx : Option Value} {l h m : Int} {len cap : Nat} (w : World) (hd : P.underlying ty = some (.slice e)) (hi' : P.info? e = some i)
    (hl : BoundIs lo 0 l) (hh : BoundIs hi len h) (hm : (mx = none ∧ m = cap) ∨ ((∃ q, mx = some (.int q m)) ∧ hi ≠ none)) (h0 : 0 ≤ l) (h1 : l ≤ h) (h2 : h ≤ m) (h3 : m ≤ cap) :
    (Instr.slice ty (.slice a len cap) lo hi mx).run P w = .ok (.slice (if m.toNat = l.toNat then a else a.map (·.add (l.toNat * i.size))) (h.toNat - l.toNat) (m.toNat - l.toNat)) w := by
  unfold Instr.slice
  simp only [run_bind, run_underlying ty w hd, run_sliceB true w hl hh hm h0 h1 h2 h3, run_sizeOf e w hi', run_pure]

/-- A new name for nothing: a slice without room. -/
theorem RelW.emptyRaw (hE : EncOk E) {B : Base} {ob : Nat → Option (Obj S)} {w : World} {φ : Phi} {M : Mem} (h : RelW E B ob w φ M) {nm : Nat} (hn : ob nm = none) (hB : B.m ≤ nm) {s : Nat} (hs1 : 1 ≤ s) :
    φ.le (setF φ nm (some ⟨0, s, 0, 0, fun _ => false⟩)) ∧ RelW E B (setF ob nm (some (.raw s []))) w (setF φ nm (some ⟨0, s, 0, 0, fun _ => false⟩)) M := by
  have hφ := le_setF h hn (⟨0, s, 0, 0, fun _ => false⟩ : GI)
  refine ⟨hφ, h.step hE (· = nm) (fun _ => False) hφ (Mem.le_refl _) (Nat.le_refl _) rfl rfl rfl (fun _ _ _ => rfl) (fun b hb => hb.elim) (fun b off hd => absurd rfl hd)
    (fun b off v h1 h2 => by rw [h1] at h2; cases h2) (fun n1 hn1 => ⟨setF_ne _ _ hn1, setF_ne _ _ hn1⟩) ?_ ?_ ?_ ?_ (fun n1 hn1 => setF_ne _ _ (by omega))⟩
  · rintro n1 q rfl hq
    rw [setF_self] at hq; cases hq
    exact ⟨_, setF_self _ _ _, rfl, hs1, by simp, by simp, fun j hj => by simp at hj, fun j tv hj => by simp at hj⟩
  · rintro n1 rfl hq
    rw [setF_self] at hq; cases hq
  · rintro n1 q b f rfl hq hcl
    rw [setF_self] at hq; cases hq
    exact absurd rfl (claim_gi (setF_self _ _ _) hcl).1
  · rintro n1 n2 _ _ _ _ _ rfl rfl _ _ _ _; rfl

theorem ok_rawSlice (hE : EnvOk E) {ty e : TypeId} {x : Operand} {lo hi mx : Option Operand} (ho : o.op = .slice ty x lo hi mx) (hd : E.P.underlying ty = some (.slice e))
    (h : rawSlice E ob base e (ev t x) (lo.map (ev t)) (hi.map (ev t)) (mx.map (ev t)) k = some r) : ∃ e', k e' = some r ∧ OpOK E o t ob base e' := by
  have bound : ∀ {φ : Phi} {M : Mem} {a : Act} {z : Option Operand} {d n : Int}, (∀ y, z = some y → VR E φ M (ev t y) (a.eval y)) → optInt (z.map (ev t)) d = some n → BoundIs (z.map a.eval) d n := by
    intro φ M a z d n hv h
    refine optInt_spec (E := E) (φ := φ) (M := M) h ?_ ?_
    · intro y hy; cases z with
      | none => cases hy
      | some q => simp only [Option.map_some, Option.some.injEq] at hy; subst hy; exact ⟨_, rfl, hv q rfl⟩
    · intro e; cases z with
      | none => rfl
      | some q => cases e
  have ops : ∀ {φ : Phi} {M : Mem} {a : Act}, (∀ y ∈ o.op.operands, VR E φ M (ev t y) (a.eval y)) → VR E φ M (ev t x) (a.eval x) ∧ (∀ y, lo = some y → VR E φ M (ev t y) (a.eval y)) ∧ (∀ y, hi = some y → VR E φ M (ev t y) (a.eval y)) ∧ ∀ y, mx = some y → VR E φ M (ev t y) (a.eval y) := by
    intro φ M a hv
    rw [ho] at hv
    exact ⟨hv x (by simp [Op.operands]), fun y e => hv y (by simp [Op.operands, e]), fun y e => hv y (by simp [Op.operands, e]), fun y e => hv y (by simp [Op.operands, e])⟩
  have some_ne : ∀ {z : Option Operand} {a : Act}, (z.map (ev t)).isSome = true → z.map a.eval ≠ none := by
    intro z a hz e
    cases z with
    | none => cases hz
    | some _ => cases e
  have maxI : ∀ {φ : Phi} {M : Mem} {a : Act} {q : IntKind} {m : Int}, (∀ y, mx = some y → VR E φ M (ev t y) (a.eval y)) → mx.map (ev t) = some (.int q m) → ∃ q, mx.map a.eval = some (.int q m) := by
    intro φ M a q m hv e
    cases mx with
    | none => cases e
    | some y =>
      simp only [Option.map_some, Option.some.injEq] at e
      have := hv y rfl
      rw [e] at this
      exact ⟨q, by rw [Option.map_some, this.int]⟩
  have noMax : ∀ {a : Act}, mx.map (ev t) = none → mx.map a.eval = none := by
    intro a e
    cases mx with
    | none => rfl
    | some y => cases e
  have run : ∀ {a : Act} {w : World} {v : Value}, (Instr.slice ty (a.eval x) (lo.map a.eval) (hi.map a.eval) (mx.map a.eval)).run E.P w = .ok v w → (execOp a.eval o).run E.P w = .ok (.value v) w := by
    intro a w v hr
    obtain ⟨dst, op', ty', pos, after, guard⟩ := o
    subst ho
    refine run_value ?_
    unfold Instr.sliceAt
    rw [run_bind, run_underlying ty w hd]
    exact hr
  unfold rawSlice at h
  split at h
  rotate_left
  · cases h
  rename_i s z he
  obtain ⟨i, zv, hi1, his, hs1, _⟩ := rawEl_spec he
  split at h
  · rename_i hx
    split at h
    · rename_i l hh hl hhi hmx
      split at h
      · rename_i hc
        obtain ⟨rfl, rfl⟩ := hc
        refine ⟨_, h, OpOK.value fun B nt t' ob' a w φ M hv hrd hm => ⟨.slice none 0 0, ?_, .pure .nils⟩⟩
        obtain ⟨v1, v2, v3, v4⟩ := ops hv
        rw [hx] at v1
        refine run ?_
        rw [v1.nils, run_sliceCut (m := 0) w hd hi1 (bound v2 hl) (bound v3 hhi) (.inl ⟨noMax hmx, rfl⟩) (Int.le_refl _) (Int.le_refl _) (Int.le_refl _) (Int.le_refl _)]
        rfl
      · cases h
    · rename_i l hh q m hl hhi hmx
      split at h
      · rename_i hc
        obtain ⟨⟨rfl, rfl, rfl⟩, hsm⟩ := hc
        refine ⟨_, h, OpOK.value fun B nt t' ob' a w φ M hv hrd hm => ⟨.slice none 0 0, ?_, .pure .nils⟩⟩
        obtain ⟨v1, v2, v3, v4⟩ := ops hv
        rw [hx] at v1
        refine run ?_
        rw [v1.nils, run_sliceCut (m := 0) w hd hi1 (bound v2 hl) (bound v3 hhi) (.inr ⟨maxI v4 hmx, some_ne hsm⟩) (Int.le_refl _) (Int.le_refl _) (Int.le_refl _) (Int.le_refl _)]
        rfl
      · cases h
    · cases h
  · rename_i nm off len hx
    split at h
    rotate_left
    · cases h
    rename_i s' cs l hh hob hl hhi
    split at h
    rotate_left
    · cases h
    rename_i hc
    obtain ⟨rfl, h0, h1, hL⟩ := hc
    -- the slice, in whatever state
    have slc : ∀ {B : Base} {ob' : Nat → Option (Obj S)} {a : Act} {w : World} {φ : Phi} {M : Mem}, ob' nm = ob nm → RelW E B ob' w φ M → VR E φ M (ev t x) (a.eval x) → ∃ g ad cap, φ nm = some g ∧ a.eval x = .slice (some ad) len cap ∧ g.s = s' ∧ g.L * s' = cs.length ∧ len ≤ cap ∧ off + len ≤ g.L ∧ g.L ≤ off + cap ∧ (cap = 0 ∨ (ad = at_ g.b (off * g.s) ∧ (off + cap) * g.s ≤ g.n)) := by
      intro B ob' a w φ M hag hm hv
      rw [hx] at hv
      obtain ⟨g, ad, cap, hg, e1, q1, q2, q3, q4⟩ := hv.rs_inv
      obtain ⟨g', hg', hs, _, hLs, _⟩ := hm.objs nm _ (hag.trans hob)
      rw [hg] at hg'; cases hg'
      exact ⟨g, ad, cap, hg, e1, hs, by rw [← hs]; exact hLs, q1, q2, q3, q4⟩
    have fits : ∀ {L n : Nat}, L * s' = cs.length → (off + n) * s' ≤ cs.length → off + n ≤ L := by
      intro L n e hle
      rw [← e] at hle
      exact Nat.le_of_mul_le_mul_right hle hs1
    split at h
    · rename_i hmx
      refine ⟨_, h, OpOK.value fun B nt t' ob' a w φ M hv hrd hm => ?_⟩
      obtain ⟨v1, v2, v3, v4⟩ := ops hv
      obtain ⟨g, ad, cap, hg, e1, hs, hLs, q1, q2, q3, q4⟩ := slc (hrd nm (by simp)) hm v1
      have hf := fits hLs hL
      refine ⟨_, run (by rw [e1]; exact run_sliceCut (m := cap) w hd hi1 (bound v2 hl) (bound v3 hhi) (.inl ⟨noMax hmx, rfl⟩) h0 h1 (by omega) (Int.le_refl _)), ?_⟩
      rw [Int.toNat_natCast, show hh.toNat - l.toNat = (hh - l).toNat by omega]
      by_cases hz : cap = l.toNat
      · rw [if_pos hz]
        exact .rs hg (by omega) (by omega) (by omega) (.inl (by omega))
      · rw [if_neg hz, Option.map_some]
        obtain ⟨rfl, q6⟩ := q4.resolve_left (by omega)
        rw [at_add, his, ← hs, ← Nat.add_mul]
        refine .rs hg (by omega) (by omega) (by omega) (.inr ⟨rfl, ?_⟩)
        rw [show off + l.toNat + (cap - l.toNat) = off + cap by omega]; exact q6
    · rename_i q m hmx
      split at h
      rotate_left
      · cases h
      rename_i hm1
      obtain ⟨⟨hm1, hm2⟩, hsm⟩ := hm1
      split at h
      · rename_i hml
        subst hml
        refine ⟨_, h, by simp, fun p hp => ?_, fun n h1 h2 => ?_, ?_⟩
        · simp only [List.mem_singleton] at hp; subst hp; exact .inl ⟨Nat.le_refl _, Nat.lt_succ_self _⟩
        · simp only at h2; simp; omega
        · intro B nt t' ob' a w φ M Q hd' hev hrd hfr hB hrel
          obtain ⟨v1, v2, v3, v4⟩ := ops hev
          obtain ⟨g, ad, cap, hg, e1, hs, hLs, q1, q2, q3, q4⟩ := slc (hrd nm (by simp)) hrel.mem v1
          have hf := fits hLs hm2
          have hnone : ob' base = none := hfr base (Nat.le_refl _) (Nat.lt_succ_self _)
          obtain ⟨hφ, hW⟩ := hrel.mem.emptyRaw hE.toEncOk hnone hB hs1
          have hr := run (a := a) (w := w) (by rw [e1]; exact run_sliceCut (m := m) w hd hi1 (bound v2 hl) (bound v3 hhi) (.inr ⟨maxI v4 hmx, some_ne hsm⟩) h0 h1 hm1 (by omega))
          refine upon_of_value hr ⟨_, M, hrel.put hd' hφ (Mem.le_refl _) ?_ (by rw [setAll_one]; exact hW)⟩
          rw [if_pos rfl, show hh.toNat - m.toNat = 0 by omega, Nat.sub_self]
          exact .rs (setF_self _ _ _) (Nat.le_refl _) (by simp) (by simp) (.inl rfl)
      · refine ⟨_, h, OpOK.value fun B nt t' ob' a w φ M hv hrd hm => ?_⟩
        obtain ⟨v1, v2, v3, v4⟩ := ops hv
        obtain ⟨g, ad, cap, hg, e1, hs, hLs, q1, q2, q3, q4⟩ := slc (hrd nm (by simp)) hm v1
        have hf := fits hLs hm2
        exact ⟨_, run (by rw [e1]; exact run_sliceCut (m := m) w hd hi1 (bound v2 hl) (bound v3 hhi) (.inr ⟨maxI v4 hmx, some_ne hsm⟩) h0 h1 hm1 (by omega)), .dead _⟩
    · cases h
  · cases h

/-- New cells behind a raw row, in place; the old name is gone. -/
theorem RelW.growRaw (hE : EncOk E) {B : Base} {o : Nat → Option (Obj S)} {w : World} {φ : Phi} {M : Mem} (h : RelW E B o w φ M) {nm nm' s L' : Nat} {cs ys : List (TV S)} {g : GI} (hg : φ nm = some g) (hs : o nm = some (.raw s cs)) (hn : o nm' = none) (hB : B.m ≤ nm') (us : List Value)
    (hL' : L' * s = cs.length + ys.length) (hul : us.length = ys.length) (hfit : L' * s ≤ g.n) (hz : g.n ≠ 0) (hv : ∀ (j : Nat) (tv : TV S), ys[j]? = some tv → ∃ v, us[j]? = some v ∧ VR E φ M tv v) :
    φ.le (setF φ nm' (some { g with L := L' })) ∧
      RelW E B (setF (setF o nm (some .gone)) nm' (some (.raw s (cs ++ ys)))) (writeCells w g.b cs.length us) (setF φ nm' (some { g with L := L' })) M := by
  obtain ⟨g', hg', hgs, hs1, hL, hle, hlive, hcs⟩ := h.objs nm _ hs
  rw [hg] at hg'; cases hg'
  have hne : nm' ≠ nm := by intro e; subst e; rw [hn] at hs; cases hs
  have hφ := le_setF h hn ({ g with L := L' } : GI)
  refine ⟨hφ, ?_⟩
  have hcl : claim φ nm (.raw s cs) g.b 0 := claim_raw hg hz
  have hlv : ∀ j, j < us.length → Live w g.b (cs.length + j) := fun j hj => hlive _ (by omega)
  obtain ⟨e1, e2, e3⟩ := writeCells_os us w g.b cs.length
  refine h.step (hdr := Nat.le_of_eq (writeCells_drawn us w _ _).symm) hE (fun n1 => n1 = nm ∨ n1 = nm') (· = g.b) hφ (Mem.le_refl _) (Nat.le_of_eq (writeCells_size us w g.b _).symm) e1 e2 e3 (fun b _ hb => writeCells_heap us w g.b _ b hb)
    (fun b hb => ⟨nm, _, 0, .inl rfl, hs, by subst hb; exact hcl, fun k hk => absurd hk (by omega)⟩) (fun b off hd => absurd rfl hd) (fun b off v h1 h2 => by rw [h1] at h2; cases h2) ?_ ?_ ?_ ?_ ?_ ?_
  · intro n1 hn1
    have a1 : n1 ≠ nm := fun e => hn1 (.inl e)
    have a2 : n1 ≠ nm' := fun e => hn1 (.inr e)
    exact ⟨by rw [setF_ne _ _ a2, setF_ne _ _ a1], setF_ne _ _ a2⟩
  · rintro n1 y hc hy
    rcases hc with rfl | rfl
    · rw [setF_ne _ _ (Ne.symm hne), setF_self] at hy; cases hy
      trivial
    · rw [setF_self] at hy; cases hy
      refine ⟨_, setF_self _ _ _, hgs, hs1, by simp only [List.length_append, hgs]; exact hL', by simp only [hgs]; exact hfit, fun j hj => live_write hlv (hlive j hj), fun j tv hj => ?_⟩
      simp only
      by_cases hjl : j < cs.length
      · rw [List.getElem?_append_left hjl] at hj
        obtain ⟨v, h1, h2⟩ := hcs j tv hj
        exact ⟨v, by rw [writeCells_below us w g.b _ _ hjl]; exact h1, h2.mono hφ (Mem.le_refl _)⟩
      · rw [List.getElem?_append_right (by omega)] at hj
        obtain ⟨v, h1, h2⟩ := hv _ tv hj
        refine ⟨v, ?_, h2.mono hφ (Mem.le_refl _)⟩
        have := writeCells_at us w g.b cs.length (fun i hi => (hlv i hi).1) _ v h1
        rw [show cs.length + (j - cs.length) = j by omega] at this; exact this
  · rintro n1 hc hy
    rcases hc with rfl | rfl
    · rw [setF_ne _ _ (Ne.symm hne), setF_self] at hy; cases hy
    · rw [setF_self] at hy; cases hy
  · rintro n1 y b f hc hy hcl'
    rcases hc with rfl | rfl
    · rw [setF_ne _ _ (Ne.symm hne), setF_self] at hy; cases hy
      exact absurd hcl' claim_gone
    · rw [setF_self] at hy; cases hy
      obtain ⟨_, rfl, rfl⟩ := claim_gi (g := { g with L := L' }) (setF_self _ _ _) hcl'
      exact ⟨by rw [writeCells_size]; exact h.csz _ _ _ _ hs hcl, .inr ⟨nm, _, _, .inl rfl, hs, hcl⟩, fun off hf => h.mdis _ _ _ _ off hs hcl (by omega)⟩
  · rintro n1 n2 x1 x2 b f f' hc1 hc2 hy1 hy2 hcl1 hcl2
    rcases hc1 with rfl | rfl <;> rcases hc2 with rfl | rfl
    · rfl
    · rw [setF_ne _ _ (Ne.symm hne), setF_self] at hy1; cases hy1; exact absurd hcl1 claim_gone
    · rw [setF_ne _ _ (Ne.symm hne), setF_self] at hy2; cases hy2; exact absurd hcl2 claim_gone
    · rfl
  · intro n1 hn1
    exact setF_ne _ _ (by omega)

theorem rawOf_ag {ob ob' : Nat → Option (Obj S)} {s n : Nat} {y : TV S} {ys : List (TV S)} {rd : List Nat} (h : rawOf ob s y = some (n, ys, rd)) (hag : ∀ n ∈ rd, ob' n = ob n) : rawOf ob' s y = some (n, ys, rd) := by
  unfold rawOf at h ⊢
  split at h
  · exact h
  · rename_i nm off len
    have hrd : rd = [nm] := by
      split at h
      · split at h
        · simp only [Option.some.injEq, Prod.mk.injEq] at h; exact h.2.2.symm
        · cases h
      · cases h
    rw [hag nm (by rw [hrd]; simp)]; exact h
  · cases h

theorem ok_rawAppend (hE : EnvOk E) {args : Array Operand} {ts : Array TypeId} {x y : Operand} {e e' : TypeId} (ho : o.op = .call { callee := .builtin .append, args, argTypes := ts }) (ha : args.toList = [x, y])
    (h0 : (ts[0]?).bind E.P.underlying = some (.slice e)) (h1 : (ts[1]?).bind E.P.underlying = some (.slice e')) (h : rawAppend E ob base e (ev t x) (ev t y) k = some r) : ∃ ef, k ef = some r ∧ OpOK E o t ob base ef := by
  obtain ⟨st, hst, hu⟩ : ∃ st, ts[0]? = some st ∧ E.P.underlying st = some (.slice e) := by
    cases h2 : ts[0]? with
    | none => rw [h2] at h0; cases h0
    | some st => rw [h2] at h0; exact ⟨st, rfl, h0⟩
  obtain ⟨xt, hxt, hux⟩ : ∃ xt, ts[1]? = some xt ∧ E.P.underlying xt = some (.slice e') := by
    cases h2 : ts[1]? with
    | none => rw [h2] at h1; cases h1
    | some st => rw [h2] at h1; exact ⟨st, rfl, h1⟩
  have hopx : ∀ {a : Act} {φ : Phi} {M : Mem}, (∀ x ∈ o.op.operands, VR E φ M (ev t x) (a.eval x)) → VR E φ M (ev t x) (a.eval x) ∧ VR E φ M (ev t y) (a.eval y) := by
    intro a φ M hev
    have hargs : args = #[x, y] := by rw [← Array.toArray_toList (xs := args), ha]
    exact ⟨hev x (by rw [ho, hargs]; simp [Op.operands, Call.operands]), hev y (by rw [ho, hargs]; simp [Op.operands, Call.operands])⟩
  unfold rawAppend at h
  split at h
  rotate_left
  · cases h
  rename_i s z he
  obtain ⟨i, zv, hi, his, hs1, hs2, hb, hzv, hzs, rfl⟩ := rawEl_spec he
  -- nothing is appended
  have none_ : ∀ {a : Act} {w : World} {ad : Option Addr} {len cap : Nat}, len ≤ cap → a.eval x = .slice ad len cap → (Builtin.lenOf (a.eval y)).run E.P w = .ok 0 w → (Builtin.firstCells s 0 (a.eval y)).run E.P w = .ok #[] w →
      (execOp a.eval o).run E.P w = .ok (.value (.slice ad len cap)) w := by
    intro a w ad len cap hle ex hn hfc
    obtain ⟨dst, op', ty', pos, after, guard⟩ := o
    subst ho
    refine run_append_op ha a.eval ?_
    rw [ex]
    exact run_append_room (us := []) (W' := w) hst hu hxt hux hi hn (by rw [his]; exact hfc) hle (fun q _ => rfl) (fun _ => rfl)
  -- no room: a new array
  have grow : ∀ {B : Base} {nt : Nat} {t' : Nat → TV S} {ob1 ob' : Nat → Option (Obj S)} {a : Act} {w : World} {φ : Phi} {M : Mem} {Q : Exit → Act → World → Prop} {ad : Option Addr} {L n cap : Nat} {cs ys : List (TV S)} {us0 us : List Value},
      dstOk nt o.dst = true → ob1 base = none → B.m ≤ base → Rel E B nt t' ob' a w φ M → RelW E B ob1 w φ M → a.eval x = .slice ad L cap → L + n ≤ maxRow → (Builtin.lenOf (a.eval y)).run E.P w = .ok n w → (Builtin.firstCells s n (a.eval y)).run E.P w.drew = .ok us.toArray w.drew →
      (Builtin.firstCells s L (a.eval x)).run E.P w.drew = .ok us0.toArray w.drew → us0.length = cs.length → us.length = ys.length → cs.length = L * s → ys.length = n * s →
      (∀ (j : Nat) (tv : TV S), cs[j]? = some tv → ∃ v, us0[j]? = some v ∧ VR E φ M tv v) → (∀ (j : Nat) (tv : TV S), ys[j]? = some tv → ∃ v, us[j]? = some v ∧ VR E φ M tv v) → ¬ L + n ≤ cap →
      o.upon E.P a (fun a' w' => ∃ φ' M', Rel E B nt (putDst t' o.dst (.rs base 0 (L + n))) (setF ob1 base (some (.raw s (cs ++ ys)))) a' w' φ' M') Q ((execOp a.eval o).run E.P w) := by
    intro B nt t' ob1 ob' a w φ M Q ad L n cap cs ys us0 us hd hnone hB hrel hW hx hmax hn hfc hfc0 hl0 hl1 hcl hyl hv0 hv1 hle
    rw [hx] at hfc0
    obtain ⟨x', hrun⟩ := run_append_grow (ty := o.type) (us := us) (us0 := us0) hst hu hxt hux hi hzv hb hmax hn (by rw [his]; exact hfc) (by rw [his]; exact hfc0) hle
    rw [← hx] at hrun
    obtain ⟨hφ, hW'⟩ := hW.drew.newRaw hE.toEncOk (e := e) (L := L + n) (cs := cs ++ ys) (vs := us0.toArray ++ us.toArray ++ Builtin.zeroCells zv.cells x') hnone hB hs1 (by rw [List.length_append, hcl, hyl, Nat.add_mul])
      (by simp; omega) (fun j tv hj => by
        by_cases hjl : j < cs.length
        · rw [List.getElem?_append_left hjl] at hj
          obtain ⟨v, h1, h2⟩ := hv0 j tv hj
          exact ⟨v, append_pre (by rw [List.toList_toArray, List.toList_toArray, List.getElem?_append_left (by omega)]; exact h1), h2⟩
        · rw [List.getElem?_append_right (by omega)] at hj
          obtain ⟨v, h1, h2⟩ := hv1 _ tv hj
          exact ⟨v, append_pre (by rw [List.toList_toArray, List.toList_toArray, List.getElem?_append_right (by omega), hl0]; exact h1), h2⟩)
    obtain ⟨dst, op', ty', pos, after, guard⟩ := o
    subst ho
    refine upon_of_value (run_append_op ha a.eval hrun) ⟨_, M, hrel.put hd hφ (Mem.le_refl _) ?_ hW'⟩
    refine .rs (setF_self _ _ _) (by omega) (by simp) (by simp only []; omega) (.inr ⟨by simp, ?_⟩)
    simp only [Array.size_append, List.size_toArray, zeroCells_size, hl0, hl1, hcl, hyl, hzs]
    rw [← Nat.add_mul, ← Nat.add_mul]
    simp
  split at h
  · -- nothing
    rename_i ys rd hys
    split at h
    · rename_i hx
      refine ⟨_, h, OpOK.value fun B nt t' ob' a w φ M hv hrd hm => ⟨.slice none 0 0, ?_, .pure .nils⟩⟩
      obtain ⟨v1, v2⟩ := hopx hv
      rw [hx] at v1
      obtain ⟨us, q1, q2, q3, _⟩ := rawOf_ok hm (rawOf_ag hys hrd) v2
      obtain rfl : us = [] := List.length_eq_zero_iff.1 (by omega)
      exact none_ (Nat.le_refl _) v1.nils q1 q2
    · rename_i nm off len hx
      refine ⟨_, h, OpOK.value fun B nt t' ob' a w φ M hv hrd hm => ⟨a.eval x, ?_, by rw [← hx]; exact (hopx hv).1⟩⟩
      obtain ⟨v1, v2⟩ := hopx hv
      rw [hx] at v1
      obtain ⟨g, ad, cap, hg, e1, hle, _⟩ := v1.rs_inv
      obtain ⟨us, q1, q2, q3, _⟩ := rawOf_ok hm (rawOf_ag hys fun n hn => hrd n (by simp [hn])) v2
      obtain rfl : us = [] := List.length_eq_zero_iff.1 (by omega)
      rw [e1]
      exact none_ hle e1 q1 q2
    · cases h
  · rename_i n ys rd hn0 hys
    split at h
    rotate_left
    · cases h
    rename_i hc
    obtain ⟨hn, hal⟩ := hc
    split at h
    · -- onto nil
      rename_i hx
      refine ⟨_, h, by simp, fun p hp => ?_, fun n h1 h2 => ?_, ?_⟩
      · simp only [List.mem_singleton] at hp; subst hp; exact .inl ⟨Nat.le_refl _, Nat.lt_succ_self _⟩
      · simp only at h2; simp; omega
      · intro B nt t' ob' a w φ M Q hd hev hrd hfr hB hrel
        obtain ⟨v1, v2⟩ := hopx hev
        rw [hx] at v1
        have hr := rawOf_ag hys hrd
        obtain ⟨_, q1, _⟩ := rawOf_ok hrel.mem hr v2
        obtain ⟨us, _, q2, q3, q4, q5⟩ := rawOf_ok hrel.mem.drew hr v2
        have hnone : ob' base = none := hfr base (Nat.le_refl _) (Nat.lt_succ_self _)
        have hnz : n ≠ 0 := fun e => hn0 e
        have := grow (cs := []) (us0 := []) (L := 0) (Q := Q) hd hnone hB hrel hrel.mem v1.nils (by simp only [maxRow]; omega) q1 q2 (by rw [v1.nils]; rfl) rfl (by omega) (by simp) q4 (fun j tv hj => by simp at hj) q5 (by omega)
        simpa [setAll_one] using this
    · -- onto a row
      rename_i nm len hx
      split at h
      rotate_left
      · cases h
      rename_i s' cs hob
      split at h
      rotate_left
      · cases h
      rename_i hc
      obtain ⟨rfl, hcl, hlen⟩ := hc
      refine ⟨_, h, ⟨by simp, fun p hp => ?_, fun n h1 h2 => ?_, ?_⟩⟩
      · simp only [List.mem_cons, List.not_mem_nil, or_false] at hp
        rcases hp with rfl | rfl
        · exact .inr ⟨by simp, by simp [hob]⟩
        · exact .inl ⟨Nat.le_refl _, Nat.lt_succ_self _⟩
      · simp only at h2; simp; omega
      · intro B nt t' ob' a w φ M Q hd hev hrd hfr hB hrel
        obtain ⟨v1, v2⟩ := hopx hev
        have v1' := v1
        rw [hx] at v1
        have hob2 : ob' nm = some (.raw s' cs) := (hrd nm (by simp)).trans hob
        have hr := rawOf_ag hys fun n hn => hrd n (by simp [hn])
        have hnone : ob' base = none := hfr base (Nat.le_refl _) (Nat.lt_succ_self _)
        have hne : nm ≠ base := by intro e; subst e; rw [hob2] at hnone; cases hnone
        obtain ⟨g, ad, cap, hg, e1, p1, p2, p3, p4⟩ := v1.rs_inv
        obtain ⟨g', hg', hgs, _, hL, hle, hlive, hcs⟩ := hrel.mem.objs nm _ hob2
        rw [hg] at hg'; cases hg'
        have hnz : n ≠ 0 := fun e => hn0 e
        by_cases hroom : len + n ≤ cap
        · obtain ⟨us, q1, q2, q3, q4, q5⟩ := rawOf_ok hrel.mem hr v2
          obtain ⟨rfl, p6⟩ := p4.resolve_left (by omega)
          have hfit : (len + n) * s' ≤ g.n := by
            have : (len + n) * s' ≤ (0 + cap) * g.s := by rw [hgs]; exact Nat.mul_le_mul_right _ (by omega)
            omega
          have hLn : (len + n) * s' = cs.length + ys.length := by rw [hcl, q4, Nat.add_mul]
          have hz : g.n ≠ 0 := by
            have : 0 < (len + n) * s' := Nat.mul_pos (by omega) hs1
            omega
          have hone : ∀ v ∈ us, oneCell v = true := by
            intro v hv
            obtain ⟨j, hj⟩ := List.mem_iff_getElem?.1 hv
            have hlt : j < ys.length := by have := (List.getElem?_eq_some_iff.1 hj).1; omega
            obtain ⟨v', h5, h6⟩ := q5 j _ (List.getElem?_eq_getElem hlt)
            rw [hj] at h5; cases h5
            exact oneCell_VR h6 (List.all_eq_true.1 hal _ (List.getElem_mem hlt))
          obtain ⟨hφ, hW'⟩ := hrel.mem.growRaw hE.toEncOk hg hob2 hnone hB us hLn (by omega) hfit hz q5
          have hst' : (storeCells ((at_ g.b (0 * g.s)).add (len * i.size)) us).run E.P w = .ok () (writeCells w g.b cs.length us) := by
            rw [at_add, his, ← hcl, Nat.zero_mul, Nat.zero_add]
            have := run_storeCells (P := E.P) g.b cs.length us w 0 hone (fun j hj => hlive _ (by omega))
            simpa using this
          have hrun := run_append_room (ty := o.type) (W' := writeCells w g.b cs.length us) hst hu hxt hux hi q1 (by rw [his]; exact q2) hroom (fun q e => by obtain rfl := Option.some.inj e; exact hst') (fun e => by cases e)
          rw [← e1] at hrun
          obtain ⟨dst, op', ty', pos, after, guard⟩ := o
          subst ho
          refine upon_of_value (run_append_op ha a.eval hrun) ⟨_, M, hrel.put hd hφ (Mem.le_refl _) ?_ hW'⟩
          exact .rs (setF_self _ _ _) hroom (by simp) (by simpa using hroom) (.inr ⟨rfl, by simpa using p6⟩)
        · obtain ⟨_, q1, _⟩ := rawOf_ok hrel.mem hr v2
          obtain ⟨us, _, q2, q3, q4, q5⟩ := rawOf_ok hrel.mem.drew hr v2
          have hrx : rawOf ob' s' (.rs nm 0 len) = some (len, cs, [nm]) := by
            simp only [rawOf, hob2, if_true, Nat.zero_mul, List.drop_zero, ← hcl, List.take_length]
          obtain ⟨us0, _, q6, q7, q8, q9⟩ := rawOf_ok hrel.mem.drew hrx v1
          have := grow (cs := cs) (us0 := us0) (Q := Q) hd (by rw [setF_ne _ _ (Ne.symm hne)]; exact hnone) hB hrel (hrel.mem.gone hE.toEncOk (nm := nm) (by rw [hob2]; simp)) e1 (by simp only [maxRow]; omega) q1 q2 q6 (by omega) (by omega) hcl q4 q9 q5 hroom
          exact this
    · cases h
  · cases h
end
end TE
