/- TE: literals of slices, make. -/
import Derived.Test.YtkhkbikglgpkoaaGreatTE12
import Derived.IntWalk
namespace TE
open Go
variable {S : Sig} {E : Env S}

theorem flat_get {α β : Type} (f : α → List β) (s : Nat) : ∀ (l : List α), (∀ x ∈ l, (f x).length = s) → ∀ (i j : Nat) (x : α), l[i]? = some x → j < s → (l.flatMap f)[i * s + j]? = (f x)[j]?
  | [], _, i, j, x, h, _ => by simp at h
  | y :: r, hl, i, j, x, h, hj => by
    rw [List.flatMap_cons]
    have hy := hl y (by simp)
    cases i with
    | zero =>
      simp at h; subst h
      rw [List.getElem?_append_left (by omega)]; simp
    | succ i =>
      rw [List.getElem?_append_right (by rw [hy, Nat.succ_mul]; omega), hy, show (i + 1) * s + j - s = i * s + j by rw [Nat.succ_mul]; omega]
      exact flat_get f s r (fun x hx => hl x (by simp [hx])) i j x (by simpa using h) hj
theorem flat_len {α β : Type} (f : α → List β) (s : Nat) : ∀ (l : List α), (∀ x ∈ l, (f x).length = s) → (l.flatMap f).length = l.length * s
  | [], _ => by simp
  | y :: r, hl => by
    rw [List.flatMap_cons, List.length_append, hl y (by simp), flat_len f s r (fun x hx => hl x (by simp [hx])), List.length_cons, Nat.succ_mul]; omega

theorem fill_rows (s : Nat) : ∀ (qs : List (Nat × Value)) (k : Nat) (cells : Array Value), qs.map (·.1) = List.range' k qs.length → (∀ q ∈ qs, q.2.cells.size = s) → (k + qs.length) * s ≤ cells.size →
    ∃ cells', Instr.fill (fun i => some (i * s, s)) cells qs = some cells' ∧ cells'.size = cells.size ∧
      ∀ p, cells'[p]? = if k * s ≤ p ∧ p < (k + qs.length) * s then (qs.flatMap (fun q => q.2.cells.toList))[p - k * s]? else cells[p]?
  | [], k, cells, _, _, _ => ⟨cells, rfl, rfl, fun p => by simp; omega⟩
  | (j, v) :: r, k, cells, hk, hs, hle => by
    simp only [List.map_cons, List.length_cons, List.range'_succ, List.cons.injEq] at hk
    obtain ⟨rfl, hk⟩ := hk
    have hv : v.cells.size = s := hs (j, v) (by simp)
    simp only [List.length_cons] at hle
    have hmul : (j + 1 + r.length) * s = j * s + s + r.length * s := by rw [Nat.add_mul, Nat.succ_mul]
    have hmul2 : (j + (r.length + 1)) * s = (j + 1 + r.length) * s := by congr 1; omega
    obtain ⟨cells', h1, h2, h3⟩ := fill_rows s r (j + 1) (v.cells.zipIdx.foldl (fun cs (c, i) => cs.setIfInBounds (j * s + i) c) cells) hk (fun q hq => hs q (by simp [hq])) (by
      have : (v.cells.zipIdx.foldl (fun cs (c, i) => cs.setIfInBounds (j * s + i) c) cells).size = cells.size := by
        have hfold : v.cells.zipIdx.foldl (fun cs (c, i) => cs.setIfInBounds (j * s + i) c) cells = (v.cells.toList.zipIdx 0).foldl (fun cs (x : Value × Nat) => cs.setIfInBounds (j * s + x.2) x.1) cells := by
          rw [← Array.foldl_toList]; simp
        rw [hfold, foldl_set_size]
      rw [this]; omega)
    have hfold : v.cells.zipIdx.foldl (fun cs (c, i) => cs.setIfInBounds (j * s + i) c) cells = (v.cells.toList.zipIdx 0).foldl (fun cs (x : Value × Nat) => cs.setIfInBounds (j * s + x.2) x.1) cells := by
      rw [← Array.foldl_toList]; simp
    refine ⟨cells', ?_, by rw [h2, hfold, foldl_set_size], fun p => ?_⟩
    · simp only [Instr.fill]
      rw [if_neg (by simp; omega)]
      exact h1
    · rw [h3 p, hfold, foldl_set_spec (j * s) _ 0 cells (by simp; omega) p]
      simp only [Nat.add_zero, Array.length_toList, hv, List.length_cons, List.flatMap_cons]
      rw [hmul2]
      by_cases c1 : (j + 1) * s ≤ p ∧ p < (j + 1 + r.length) * s
      · rw [Nat.succ_mul] at c1
        rw [if_pos (by rw [Nat.succ_mul]; omega), if_pos (by omega), List.getElem?_append_right (by simp; omega)]
        congr 1
        simp only [Array.length_toList, hv, Nat.succ_mul]; omega
      · rw [Nat.succ_mul] at c1
        rw [if_neg (by rw [Nat.succ_mul]; omega)]
        by_cases c2 : j * s ≤ p ∧ p < j * s + s
        · rw [if_pos c2, if_pos (by omega), List.getElem?_append_left (by simp; omega)]
        · rw [if_neg c2, if_neg (by omega)]

theorem run_zeroRow {P : Program} {e : TypeId} {i : TypeInfo} {z : Value} (w : World) (hi : P.info? e = some i) (hz : i.zero = some z) (n : Nat) :
    (if n = 0 then pure #[] else do pure (← zeroValue e).cells : Sem (Array Value)).run P w = .ok (if n = 0 then #[] else z.cells) w := by
  split
  · rfl
  · rw [run_bind, run_zeroValue e w hi hz]; rfl

theorem ofVal_CR (E : Env S) (M : Mem) (v : Value) (h : aliveCell (ofVal (S := S) v) = true) : CR E M (ofVal v) v := by
  unfold ofVal at h ⊢
  split at h
  · exact .bool _
  · exact .int _ _
  · exact .str _
  · exact .nilp
  · exact .nils
  · exact .nilm
  · exact .nilf
  · exact .nili
  · simp [aliveCell] at h

section
variable {R : Type} {k : Eff S → Option R} {r : R} {t : Nat → TV S} {ob : Nat → Option (Obj S)} {base : Nat} {o : Oper}

theorem ok_buildSlice (hE : EnvOk E) {ty e : TypeId} {n : Nat} {ps : Array (Nat × Operand)} {c : S.K} {xs : List (S.El c)} {m : RM} (ho : o.op = .buildSlice ty n ps) (hu : E.P.underlying ty = some (.slice e)) (hc : E.code e = some c)
    (hps : ps.toList.map (·.1) = List.range n) (hn : n ≤ 1000) (hxs : (ps.toList.map fun p => ev t p.2).mapM (elem E ob c) = some xs) :
    OpOK E o t ob base ⟨.slw base, (ps.toList.map fun p => ev t p.2).flatMap (fun v => (cellsOf v).flatMap rowName),
      freezes ob ((ps.toList.map fun p => ev t p.2).flatMap (fun v => (cellsOf v).flatMap rowName)) ++ [(base, .row c xs m)], base + 1⟩ := by
  obtain ⟨i, hi, hsz, hb, z, hz, hzs⟩ := hE.size e c hc
  refine ⟨by simp, fun p hp => ?_, fun n h1 h2 => ?_, ?_⟩
  · simp only [List.mem_append, List.mem_singleton] at hp
    rcases hp with hp | rfl
    · obtain ⟨h1, c', xs', _, h2⟩ := freezes_mem hp
      exact .inr ⟨h1, by simp [h2]⟩
    · exact .inl ⟨Nat.le_refl _, Nat.lt_succ_self _⟩
  · simp only at h2; simp; right; omega
  · intro B nt t' ob' a w φ M Q hd hev hrd hfr hB hrel
    have hag : ∀ n ∈ (ps.toList.map fun p => ev t p.2).flatMap (fun v => (cellsOf v).flatMap rowName), ob' n = ob n := hrd
    obtain ⟨M1, hM1, hW1⟩ := hrel.mem.freezeList hE.toEncOk (freezes ob ((ps.toList.map fun p => ev t p.2).flatMap (fun v => (cellsOf v).flatMap rowName))) _ M (fun p hp => by
      obtain ⟨h1, c', xs', h2, h3⟩ := freezes_mem hp
      exact ⟨c', xs', h2, .inl (by rw [hag _ h1]; exact h3)⟩) (fun p hp q hq e => freezes_det p hp q hq e)
    have hv' : ∀ p ∈ ps.toList, VR E φ M (ev t p.2) (a.eval p.2) := fun p hp => hev p.2 (by rw [ho]; simp [Op.operands]; exact ⟨p.1, by simpa using hp⟩)
    have hlen : ps.toList.length = n := by have := congrArg List.length hps; simpa using this
    obtain ⟨hml, hmg⟩ := mapM_get hxs
    have hxl : xs.length = n := by rw [← hml]; simp; exact hlen
    -- each part: its cells, and the element
    have part : ∀ (q : Nat) (p : Nat × Operand), ps.toList[q]? = some p → ∃ x, xs[q]? = some x ∧ (a.eval p.2).cells.size = E.sz c ∧ ∀ (j : Nat) (tv : TV S), (E.enc c x)[j]? = some tv → ∃ u, (a.eval p.2).cells.toList[j]? = some u ∧ CR E M1 tv u := by
      intro q p hp
      have hpm := List.mem_of_getElem? hp
      obtain ⟨x, hx, hel⟩ := hmg q (ev t p.2) (by simp [hp])
      unfold elem at hel
      simp only [Option.bind_eq_some_iff] at hel
      obtain ⟨cs', hcs', hdec⟩ := hel
      obtain ⟨hl2, hg2⟩ := mapM_get hcs'
      have hnd : ev t p.2 ≠ .dead := by
        intro hd'
        rw [hd'] at hcs'
        simp [cellsOf, pureOf] at hcs'
      obtain ⟨hcl, hcv⟩ := VR.cells hnd (hv' p hpm)
      have hsize : (cellsOf (ev t p.2)).length = E.sz c := by rw [hl2]; exact hE.decLen c cs' x hdec
      refine ⟨x, hx, by omega, fun j tv hj => ?_⟩
      have hjl : j < E.sz c := by rw [← hE.len c x]; exact (List.getElem?_eq_some_iff.1 hj).1
      obtain ⟨y, hy⟩ : ∃ y, (cellsOf (ev t p.2))[j]? = some y := ⟨_, List.getElem?_eq_getElem (by omega)⟩
      obtain ⟨y', hy', hpy⟩ := hg2 j y hy
      obtain ⟨u, hu'⟩ : ∃ u, (a.eval p.2).cells[j]? = some u := ⟨_, Array.getElem?_eq_getElem (by omega)⟩
      have hcr : CR E M1 y' u := by
        refine pureOf_CR hW1 hpy (fun nm' hnm' c' xs' m' hm' => ?_) hE.toEncOk ((hcv j y u hy hu').mono (Phi.le_refl _) hM1)
        have hmem : nm' ∈ (ps.toList.map fun p => ev t p.2).flatMap (fun v => (cellsOf v).flatMap rowName) :=
          List.mem_flatMap.2 ⟨ev t p.2, List.mem_map_of_mem hpm, List.mem_flatMap.2 ⟨y, List.mem_of_getElem? hy, hnm'⟩⟩
        exact freezes_after hmem hm' (hag _ hmem)
      obtain ⟨tv', htv', hc'⟩ := hE.dec c cs' x M1 j y' u hdec hy' hcr
      rw [hj] at htv'; cases htv'
      exact ⟨u, by simpa using hu', hc'⟩
    let us : List Value := ps.toList.flatMap fun p => (a.eval p.2).cells.toList
    have hcl : ∀ p ∈ ps.toList, ((a.eval p.2).cells.toList).length = E.sz c := by
      intro p hp
      obtain ⟨q, hq⟩ := List.mem_iff_getElem?.1 hp
      obtain ⟨x, _, h2, _⟩ := part q p hq
      simpa using h2
    have husl : us.length = n * E.sz c := by rw [← hlen]; exact flat_len _ _ _ hcl
    have hrow : RowV E M1 c xs us := by
      intro q x j tv hq hj
      have hql : q < n := by rw [← hxl]; exact (List.getElem?_eq_some_iff.1 hq).1
      obtain ⟨p, hp⟩ : ∃ p, ps.toList[q]? = some p := ⟨_, List.getElem?_eq_getElem (by omega)⟩
      obtain ⟨x', hx', _, h3⟩ := part q p hp
      rw [hq] at hx'; cases hx'
      obtain ⟨u, hu', hc'⟩ := h3 j tv hj
      have hjl : j < E.sz c := by rw [← hE.len c x]; exact (List.getElem?_eq_some_iff.1 hj).1
      exact ⟨u, by rw [flat_get _ _ _ hcl q j p hp hjl]; exact hu', hc'⟩
    -- the model's run
    have hbig : ¬ n * i.size > 2 ^ 24 := by
      have := hE.szle c
      rw [hsz]
      have : n * E.sz c ≤ 1000 * 2 ^ 11 := Nat.mul_le_mul hn this
      omega
    obtain ⟨cells, hf1, hf2, hf3⟩ := fill_rows i.size (ps.toList.map fun p => (p.1, a.eval p.2)) 0 ((Array.range (n * i.size)).map ((if n * i.size = 0 then #[] else z.cells)[· % (if n * i.size = 0 then #[] else z.cells).size]!)) (by
        rw [List.map_map, show ((fun x : Nat × Value => x.1) ∘ fun p : Nat × Operand => (p.1, a.eval p.2)) = fun p => p.1 from rfl, hps]
        rw [List.length_map, hlen, List.range_eq_range']) (by
        intro q hq
        simp only [List.mem_map] at hq
        obtain ⟨p, hp, rfl⟩ := hq
        have := hcl p hp
        simp at this; rw [hsz]; exact this) (by simp [hlen])
    have hpre : ∀ (p : Nat) (u : Value), us[p]? = some u → cells[p]? = some u := by
      intro p u hpu
      have hlt : p < n * E.sz c := by rw [← husl]; exact (List.getElem?_eq_some_iff.1 hpu).1
      rw [hf3 p, if_pos (by simp [hlen, hsz]; exact hlt)]
      rw [Nat.zero_mul, Nat.sub_zero, List.flatMap_map]; exact hpu
    obtain ⟨M2, hM2, hW2⟩ := hW1.newRow hE.toEncOk (m := m) (e := e) (vs := cells) (us := us) (xs := xs) (by
        rw [setAll_not _ _ ?_]
        · exact hfr base (Nat.le_refl _) (Nat.lt_succ_self _)
        · intro hc'
          simp only [List.mem_map] at hc'
          obtain ⟨p, hp, e1⟩ := hc'
          obtain ⟨h1, c', xs', _, h2⟩ := freezes_mem hp
          have h3 := hag _ h1
          rw [e1, hfr base (Nat.le_refl _) (Nat.lt_succ_self _)] at h3
          rw [e1, ← h3] at h2; cases h2) hB (by rw [husl, hxl]) (by rw [husl, hf2]; simp [hsz]) hpre hrow (fun _ _ he => by rw [hf2]; simp [show n = 0 by rw [← hxl, he]; rfl])
    have hn0 : setAll ob' (freezes ob ((ps.toList.map fun p => ev t p.2).flatMap (fun v => (cellsOf v).flatMap rowName))) base = none := by
      rw [setAll_not _ _ ?_]
      · exact hfr base (Nat.le_refl _) (Nat.lt_succ_self _)
      · intro hc'
        simp only [List.mem_map] at hc'
        obtain ⟨p, hp, e1⟩ := hc'
        obtain ⟨h1, c', xs', _, h2⟩ := freezes_mem hp
        have h3 := hag _ h1
        rw [e1, hfr base (Nat.le_refl _) (Nat.lt_succ_self _)] at h3
        rw [e1, ← h3] at h2; cases h2
    have hφ := le_setF hW1 hn0 (⟨w.heap.size, E.sz c, xs.length, cells.size, fun _ => false⟩ : GI)
    have hrun : (Instr.buildSlice ty n (ps.map fun p => (p.1, a.eval p.2))).run E.P w = .ok (.slice (some (at_ w.heap.size 0)) n n) (w.alloc (.cells cells e)) := by
      unfold Instr.buildSlice
      rw [run_bind, run_underlying ty w hu]
      simp only []
      rw [run_bind, run_sizeOf e w hi]
      simp only [hbig, if_false]
      have : (ps.map fun p => (p.1, a.eval p.2)).toList = ps.toList.map fun p => (p.1, a.eval p.2) := by simp
      by_cases h0 : n * i.size = 0
      · rw [if_pos h0] at hf1 ⊢
        simp only [run_bind, run_pure, this, hf1]
        rfl
      · rw [if_neg h0] at hf1 ⊢
        simp only [run_bind, run_pure, run_zeroValue e w hi hz, this, hf1]
        rfl
    obtain ⟨dst, op', ty', pos, after, guard⟩ := o
    subst ho
    refine upon_of_value (run_value hrun) ⟨_, M2, hrel.put hd hφ (hM1.le_trans hM2) ?_ (by rw [setAll_append, setAll_one]; exact hW2)⟩
    refine .slw (setF_self _ _ _) ?_
    rw [show Value.slice (some (at_ w.heap.size 0)) n n = Value.slice (some (at_ w.heap.size 0)) xs.length xs.length by rw [hxl]]
    exact sliceAt_new (E := E) (c := c) (Nat.le_refl _) (by rw [hf2]; simp [hsz, hxl])

theorem ok_buildBox {ty e : TypeId} {n : Nat} {ps : Array (Nat × Operand)} (hE : EnvOk E) (ho : o.op = .buildSlice ty n ps) (hu : E.P.underlying ty = some (.slice e))
    (h : boxSlice E base e n (ps.toList.map (·.1)) (ps.toList.map fun p => ev t p.2) k = some r) : ∃ e', k e' = some r ∧ OpOK E o t ob base e' := by
  unfold boxSlice at h
  split at h
  · rename_i ag s z ht hz
    split at h
    · rename_i hc
      obtain ⟨⟨hps, hn⟩, hal⟩ := hc
      obtain ⟨i, d, hi, _, hs, _⟩ := tyOf_spec ht
      obtain ⟨i', zv, hi', hzv, _⟩ := zeroT_spec hz
      rw [hi] at hi'; cases hi'
      refine ⟨_, h, by simp, fun p hp => ?_, fun n h1 h2 => ?_, ?_⟩
      · simp only [List.mem_singleton] at hp; subst hp; exact .inl ⟨Nat.le_refl _, Nat.lt_succ_self _⟩
      · simp only at h2; simp; omega
      · intro B nt t' ob' a w φ M Q hd hev hrd hfr hB hrel
        have hv' : ∀ p ∈ ps.toList, VR E φ M (ev t p.2) (a.eval p.2) := fun p hp => hev p.2 (by rw [ho]; simp [Op.operands]; exact ⟨p.1, by simpa using hp⟩)
        have hlen : ps.toList.length = n := by have := congrArg List.length hps; simpa using this
        have hal' : ∀ p ∈ ps.toList, (cellsOf (ev t p.2)).length = s ∧ (cellsOf (ev t p.2)).all aliveCell = true := by
          intro p hp
          have := List.all_eq_true.1 hal (ev t p.2) (List.mem_map.2 ⟨p, hp, rfl⟩)
          simp only [Bool.and_eq_true, decide_eq_true_eq] at this
          exact this
        have hcell : ∀ p ∈ ps.toList, (cellsOf (ev t p.2)).length = (a.eval p.2).cells.size ∧ ∀ (j : Nat) (tv : TV S) (u : Value), (cellsOf (ev t p.2))[j]? = some tv → (a.eval p.2).cells[j]? = some u → VR E φ M tv u := by
          intro p hp
          have hd' : ev t p.2 ≠ .dead := by intro e; have := (hal' p hp).2; rw [e] at this; simp [cellsOf, aliveCell] at this
          exact VR.cells hd' (hv' p hp)
        let us : List Value := ps.toList.flatMap fun p => (a.eval p.2).cells.toList
        have hcl : ∀ p ∈ ps.toList, ((a.eval p.2).cells.toList).length = s := by
          intro p hp
          have := (hcell p hp).1
          rw [(hal' p hp).1] at this
          simp; omega
        have husl : us.length = n * s := by rw [← hlen]; exact flat_len _ _ _ hcl
        obtain ⟨cells, hf1, hf2, hf3⟩ := fill_rows i.size (ps.toList.map fun p => (p.1, a.eval p.2)) 0 ((Array.range (n * i.size)).map ((if n * i.size = 0 then #[] else zv.cells)[· % (if n * i.size = 0 then #[] else zv.cells).size]!)) (by
            rw [List.map_map, show ((fun x : Nat × Value => x.1) ∘ fun p : Nat × Operand => (p.1, a.eval p.2)) = fun p => p.1 from rfl, hps]
            rw [List.length_map, hlen, List.range_eq_range']) (by
            intro q hq
            simp only [List.mem_map] at hq
            obtain ⟨p, hp, rfl⟩ := hq
            have := hcl p hp
            simp at this; rw [hs]; exact this) (by simp [hlen])
        have hsz : cells.size = n * s := by rw [hf2]; simp [hs]
        have hpre : ∀ p : Nat, p < n * s → cells[p]? = us[p]? := by
          intro p hlt
          rw [hf3 p, if_pos (by simp [hlen, hs]; exact hlt)]
          rw [Nat.zero_mul, Nat.sub_zero, List.flatMap_map]
        have hpair : Pair E φ M ((ps.toList.map fun p => ev t p.2).flatMap cellsOf) cells := by
          have hl1 : ((ps.toList.map fun p => ev t p.2).flatMap cellsOf).length = n * s := by
            rw [List.flatMap_map, ← hlen]
            exact flat_len _ s _ (fun p hp => (hal' p hp).1)
          refine ⟨by rw [hl1, hsz], fun j tv v hj hv => ?_⟩
          have hjn : j < n * s := by rw [← hl1]; exact (List.getElem?_eq_some_iff.1 hj).1
          have hs0 : 0 < s := by
            rcases Nat.eq_zero_or_pos s with e | e
            · rw [e] at hjn; simp at hjn
            · exact e
          have hq : j / s < n := by rw [Nat.div_lt_iff_lt_mul hs0]; exact hjn
          have hr : j % s < s := Nat.mod_lt _ hs0
          have hjq : j = j / s * s + j % s := by rw [Nat.mul_comm]; exact (Nat.div_add_mod j s).symm
          obtain ⟨p, hp⟩ : ∃ p, ps.toList[j / s]? = some p := ⟨_, List.getElem?_eq_getElem (by omega)⟩
          have g1 := flat_get (fun p : Nat × Operand => cellsOf (ev t p.2)) s ps.toList (fun p hp => (hal' p hp).1) (j / s) (j % s) p hp hr
          have g2 := flat_get (fun p : Nat × Operand => (a.eval p.2).cells.toList) s ps.toList hcl (j / s) (j % s) p hp hr
          rw [← hjq] at g1 g2
          rw [List.flatMap_map, g1] at hj
          rw [hpre j hjn] at hv
          have hv2 : us[j]? = (a.eval p.2).cells.toList[j % s]? := g2
          rw [hv2] at hv
          exact (hcell p (List.mem_of_getElem? hp)).2 (j % s) tv v hj (by simpa using hv)
        have hbig : ¬ n * i.size > 2 ^ 24 := by rw [hs]; omega
        have hrun : (Instr.buildSlice ty n (ps.map fun p => (p.1, a.eval p.2))).run E.P w = .ok (.slice (some (at_ w.heap.size 0)) n n) (w.alloc (.cells cells e)) := by
          unfold Instr.buildSlice
          rw [run_bind, run_underlying ty w hu]
          simp only []
          rw [run_bind, run_sizeOf e w hi]
          simp only [hbig, if_false]
          have : (ps.map fun p => (p.1, a.eval p.2)).toList = ps.toList.map fun p => (p.1, a.eval p.2) := by simp
          by_cases h0 : n * i.size = 0
          · rw [if_pos h0] at hf1 ⊢
            simp only [run_bind, run_pure, this, hf1]
            rfl
          · rw [if_neg h0] at hf1 ⊢
            simp only [run_bind, run_pure, run_zeroValue e w hi hzv, this, hf1]
            rfl
        obtain ⟨dst, op', ty', pos, after, guard⟩ := o
        subst ho
        refine upon_of_value (run_value hrun) ⟨setF φ base (some ⟨w.heap.size, s, n, n * s, fun _ => false⟩), M, ?_⟩
        have hn : ob' base = none := hfr base (Nat.le_refl _) (Nat.lt_succ_self _)
        have hle : φ.le (setF φ base (some ⟨w.heap.size, s, n, n * s, fun _ => false⟩)) := Phi.le_of <| by
          intro n' g' h'
          by_cases e : n' = base
          · subst e; rw [hrel.mem.fresh n' hn] at h'; cases h'
          · rw [setF_ne _ _ e]; exact h'
        have hnone : ∀ off, M w.heap.size off = none := by
          intro off
          cases hm : M w.heap.size off with
          | none => rfl
          | some v => have := size_of_cell (hrel.mem.mval _ _ _ hm); omega
        have hw := hrel.mem.new hE.toEncOk (x := .box ((ps.toList.map fun p => ev t p.2).flatMap cellsOf)) (vs := cells) (e := e) (g := ⟨w.heap.size, s, n, n * s, fun _ => false⟩) hn hB rfl (Mem.le_refl M) (fun b off hd => absurd rfl hd) (fun off v hv => by rw [hnone off] at hv; cases hv)
          (fun b f off hc _ => by have := claim_block (setF_self φ base (some ⟨w.heap.size, s, n, n * s, fun _ => false⟩)) hc; rw [this]; exact hnone off)
          ⟨_, setF_self _ _ _, fun j tv hj => by
            have hlt : j < cells.size := by rw [← hpair.1]; exact (List.getElem?_eq_some_iff.1 hj).1
            have hv : cells[j]? = some cells[j] := Array.getElem?_eq_getElem hlt
            refine ⟨cells[j], ?_, ?_, (hpair.2 j tv _ hj hv).mono hle (Mem.le_refl _)⟩
            · simp only [at_, World.cell?_alloc_new]; exact hv
            · simp only [at_, World.frozen?_alloc_new]⟩
        refine hrel.put hd hle (Mem.le_refl _) ?_ hw
        exact .sl (setF_self _ _ _) ⟨_, n, rfl, Nat.le_refl _, by simp, .inr ⟨by simp [at_], by simp⟩⟩
    · cases h
  · cases h

theorem ok_makeSlice (hE : EnvOk E) {ty e : TypeId} {l cp : Operand} {n m : Int} {c : S.K} {z : List (TV S)} {x : S.El c} (ho : o.op = .makeSlice ty l cp) (hu : E.P.underlying ty = some (.slice e)) (hl : ev t l = .int .i64 n) (hm : ev t cp = .int .i64 m)
    (hc : E.code e = some c) (hz : zeroT E.P e = some z) (hx : E.dec c z = some x) (h0 : 0 ≤ n) (h1 : n ≤ m) (h2 : m ≤ maxRow) (hal : z.all aliveCell = true) :
    OpOK E o t ob base ⟨.slw base, [], [(base, .row c (List.replicate n.toNat x) .own)], base + 1⟩ := by
  obtain ⟨i, hi, hsz, hb, zv, hzv, hzs⟩ := hE.size e c hc
  obtain ⟨i', zv', hi', hzv', rfl⟩ := zeroT_spec hz
  rw [hi] at hi'; cases hi'
  rw [hzv] at hzv'; cases hzv'
  refine ⟨by simp, fun p hp => ?_, fun n h1 h2 => ?_, ?_⟩
  · simp only [List.mem_singleton] at hp; subst hp; exact .inl ⟨Nat.le_refl _, Nat.lt_succ_self _⟩
  · simp only at h2; simp; omega
  · intro B nt t' ob' a w φ M Q hd hev hrd hfr hB hrel
    have vl : VR E φ M (ev t l) (a.eval l) := hev l (by rw [ho]; simp [Op.operands])
    have vm : VR E φ M (ev t cp) (a.eval cp) := hev cp (by rw [ho]; simp [Op.operands])
    rw [hl] at vl; rw [hm] at vm
    have el := vl.int
    have em := vm.int
    have hnone : ob' base = none := hfr base (Nat.le_refl _) (Nat.lt_succ_self _)
    simp only [maxRow] at h2
    -- the zero element's cells
    have hzcr : ∀ (j : Nat) (tv : TV S), (E.enc c x)[j]? = some tv → ∃ u, zv.cells[j]? = some u ∧ CR E M tv u := by
      intro j tv hj
      have hjl : j < E.sz c := by rw [← hE.len c x]; exact (List.getElem?_eq_some_iff.1 hj).1
      obtain ⟨u, hu'⟩ : ∃ u, zv.cells[j]? = some u := ⟨_, Array.getElem?_eq_getElem (by omega)⟩
      have ht : (zv.cells.toList.map (ofVal (S := S)))[j]? = some (ofVal u) := by simp [hu']
      have hcr : CR E M (ofVal u) u := ofVal_CR E M u (List.all_eq_true.1 hal (ofVal u) (List.mem_of_getElem? ht))
      obtain ⟨tv', htv', hc'⟩ := hE.dec c _ x M j _ u hx ht hcr
      rw [hj] at htv'; cases htv'
      exact ⟨u, hu', hc'⟩
    let cells : Array Value := (Array.range (m.toNat * i.size)).map ((if m.toNat * i.size = 0 then #[] else zv.cells)[· % (if m.toNat * i.size = 0 then #[] else zv.cells).size]!)
    have hsz0 := hE.pos c
    have hcell : ∀ p, p < m.toNat * E.sz c → cells[p]? = zv.cells[p % E.sz c]? := by
      intro p hp
      have h3 : ¬ m.toNat * i.size = 0 := by rw [hsz]; omega
      simp only [cells, if_neg h3]
      rw [Array.getElem?_map, Array.getElem?_range, if_pos (by rw [hsz]; exact hp)]
      simp only [Option.map_some, hzs]
      have hlt : p % E.sz c < zv.cells.size := by rw [hzs]; exact Nat.mod_lt _ hsz0
      rw [getElem!_pos zv.cells _ hlt, Array.getElem?_eq_getElem hlt]
    let us : List Value := cells.toList.take (n.toNat * E.sz c)
    have hnm : n.toNat * E.sz c ≤ m.toNat * E.sz c := Nat.mul_le_mul_right _ (by omega)
    have hcs : cells.size = m.toNat * E.sz c := by simp [cells, hsz]
    have husl : us.length = n.toNat * E.sz c := by
      show (cells.toList.take _).length = _
      rw [List.length_take, Array.length_toList, hcs, Nat.min_eq_left hnm]
    have hrow : RowV E M c (List.replicate n.toNat x) us := by
      intro q y j tv hq hj
      have hy : y = x := by
        have := List.mem_of_getElem? hq
        exact (List.mem_replicate.1 this).2
      subst hy
      have hlt := elt_lt hE.toEncOk hq hj
      simp only [List.length_replicate] at hlt
      obtain ⟨u, hu', hc'⟩ := hzcr j tv hj
      refine ⟨u, ?_, hc'⟩
      simp only [us]
      rw [List.getElem?_take_of_lt hlt.2.2, Array.getElem?_toList, hcell _ (by omega)]
      rw [Nat.mul_comm q, Nat.mul_add_mod, Nat.mod_eq_of_lt hlt.1]
      exact hu'
    obtain ⟨M2, hM2, hW2⟩ := hrel.mem.newRow hE.toEncOk (m := .own) (e := e) (vs := cells) (us := us) (xs := List.replicate n.toNat x) hnone hB (by rw [husl, List.length_replicate]) (by rw [husl, hcs]; exact hnm) (by
      intro p u hp
      simp only [us] at hp
      have hlt : p < n.toNat * E.sz c := by have := (List.getElem?_eq_some_iff.1 hp).1; simp at this; omega
      rw [List.getElem?_take_of_lt hlt] at hp
      simpa using hp) hrow (fun h => by cases h)
    have hφ := le_setF hrel.mem hnone (⟨w.heap.size, E.sz c, (List.replicate n.toNat x).length, cells.size, fun _ => false⟩ : GI)
    have wrapn : ∀ q : Int, 0 ≤ q → q ≤ 2 ^ 36 → IntKind.i64.wrap q = q := by
      intro q a1 a2
      exact IntWalk.i64_in q (by omega)
    have hrun : (Instr.makeSlice ty (.int .i64 n) (.int .i64 m)).run E.P w = .ok (.slice (some (at_ w.heap.size 0)) n.toNat m.toNat) (w.alloc (.cells cells e)) := by
      unfold Instr.makeSlice
      rw [run_bind, run_underlying ty w hu]
      simp only []
      rw [run_bind, show (asInt (.int .i64 n)).run E.P w = .ok n w from rfl]
      simp only []
      rw [run_bind, show (asInt (.int .i64 m)).run E.P w = .ok m w from rfl]
      simp only []
      rw [run_bind, run_typeInfo e w hi]
      simp only []
      rw [wrapn n h0 (by omega), wrapn m (by omega) (by omega)]
      have hbm : (i.bytes : Int) * m ≤ 2 ^ 48 := by
        have a1 : (i.bytes : Int) ≤ 2 ^ 11 := by omega
        have a2 : (i.bytes : Int) * m ≤ 2 ^ 11 * m := Int.mul_le_mul_of_nonneg_right a1 (by omega)
        omega
      rw [if_neg (by simp; omega)]
      rw [run_bind, run_askRoom]
      simp only []
      rw [run_bind, run_sizeOf e w hi]
      simp only []
      by_cases h0 : m.toNat * i.size = 0
      · simp only [cells, if_pos h0, run_bind, run_pure]
        rfl
      · simp only [cells, if_neg h0, run_bind, run_pure, run_zeroValue e w hi hzv]
        rfl
    obtain ⟨dst, op', ty', pos, after, guard⟩ := o
    subst ho
    refine upon_of_value (run_value (by rw [el, em]; exact hrun)) ⟨_, M2, hrel.put hd hφ hM2 ?_ hW2⟩
    refine .slw (setF_self _ _ _) ?_
    refine ⟨some (at_ w.heap.size 0), m.toNat, by simp, by simp only [List.length_replicate]; omega, by simp, .inr ⟨by simp, ?_⟩⟩
    simp only [hcs, Nat.zero_add]
    exact Nat.le_refl _

theorem ok_clear (hE : EnvOk E) {x : Operand} {args : Array Operand} {ts : Array TypeId} {e : TypeId} (ho : o.op = .call { callee := .builtin .clear, args, argTypes := ts }) (ha : args.toList = [x])
    (hu : (ts[0]?).bind E.P.underlying = some (.slice e)) (h : clearEval E ob base e (ev t x) k = some r) : ∃ e', k e' = some r ∧ OpOK E o t ob base e' := by
  unfold clearEval at h
  split at h
  · rename_i nm off len z hx hz
    split at h
    · rename_i c xs hob
      split at h
      · rename_i x0 hdec
        split at h
        · rename_i hca
          split at h
          · rename_i hol
            obtain ⟨hcode, hal⟩ := hca
            obtain ⟨hlen, hl0⟩ := hol
            have hc : E.code e = some c := by
              unfold codeIs at hcode
              split at hcode
              · rename_i d hd; rw [hd]; simpa using hcode
              · cases hcode
            obtain ⟨i, hi, hsz, _, z', hz', hzs⟩ := hE.size e c hc
            obtain ⟨i', zv, hi', hzv, hzl⟩ := zeroT_spec hz
            rw [hi] at hi'; cases hi'
            rw [hz'] at hzv; cases hzv
            subst hzl
            obtain ⟨ty, ht, hu'⟩ : ∃ ty, ts[0]? = some ty ∧ E.P.underlying ty = some (.slice e) := by
              cases ht : ts[0]? with
              | none => rw [ht] at hu; cases hu
              | some ty => rw [ht] at hu; exact ⟨ty, rfl, hu⟩
            refine ⟨_, h, Nat.le_refl _, fun p hp => ?_, fun n h1 h2 => ?_, ?_⟩
            · simp only [List.mem_singleton] at hp; subst hp
              exact .inr ⟨by simp, by simp [hob]⟩
            · simp only at h2; omega
            · intro B nt t' ob' a w φ M Q hd hev hrd hfr hB hrel
              have hargs : args = #[x] := by rw [← Array.toArray_toList (xs := args), ha]
              subst hargs
              have hx1 := hev x (by rw [ho]; simp [Op.operands, Call.operands])
              rw [hx] at hx1
              obtain ⟨g, hg, ad, cap, e2, hle0, hL0, had⟩ := hx1.sl_inv
              obtain ⟨had, _⟩ := had.resolve_left (by omega)
              subst had
              have hob1 : ob' nm = some (.row c xs .own) := by rw [hrd nm (by simp)]; exact hob
              obtain ⟨g', hg', hL, hs, hle, hlive, hrow⟩ := hrel.mem.objs nm _ hob1
              rw [hg] at hg'; cases hg'
              have hle : g.L * g.s ≤ g.n := hle.resolve_left (by intro e; cases e)
              have hpos := hE.pos c
              have hzcr : ∀ (j : Nat) (tv : TV S), (E.enc c x0)[j]? = some tv → ∃ u, z'.cells[j]? = some u ∧ CR E M tv u := by
                intro j tv hj
                have hjl : j < E.sz c := by rw [← hE.len c x0]; exact (List.getElem?_eq_some_iff.1 hj).1
                obtain ⟨u, hu'⟩ : ∃ u, z'.cells[j]? = some u := ⟨_, Array.getElem?_eq_getElem (by omega)⟩
                have ht : (z'.cells.toList.map (ofVal (S := S)))[j]? = some (ofVal u) := by simp [hu']
                have hcr : CR E M (ofVal u) u := ofVal_CR E M u (List.all_eq_true.1 hal (ofVal u) (List.mem_of_getElem? ht))
                obtain ⟨tv', htv', hc'⟩ := hE.dec c _ x0 M j _ u hdec ht hcr
                rw [hj] at htv'; cases htv'
                exact ⟨u, hu', hc'⟩
              have hone0 : ∀ (p : Nat) (u : Value), z'.cells[p]? = some u → oneCell u = true := by
                intro p u hp
                have ht : (z'.cells.toList.map (ofVal (S := S)))[p]? = some (ofVal u) := by simp [hp]
                have ha := List.all_eq_true.1 hal (ofVal u) (List.mem_of_getElem? ht)
                exact oneCell_VR (φ := φ) (.pure (ofVal_CR E M u ha)) ha
              have hcs : (Builtin.zeroCells z'.cells len).size = len * E.sz c := by rw [zeroCells_size, hzs]
              have hcell : ∀ p, p < len * E.sz c → (Builtin.zeroCells z'.cells len)[p]? = z'.cells[p % E.sz c]? := by
                intro p hp
                unfold Builtin.zeroCells
                rw [Array.getElem?_map, Array.getElem?_range, if_pos (by rw [hzs]; exact hp)]
                simp only [Option.map_some, hzs]
                have hlt : p % E.sz c < z'.cells.size := by rw [hzs]; exact Nat.mod_lt _ hpos
                rw [getElem!_pos z'.cells _ hlt, Array.getElem?_eq_getElem hlt]
              have hone : ∀ u ∈ (Builtin.zeroCells z'.cells len).toList, oneCell u = true := by
                intro u hu
                obtain ⟨p, hp⟩ := List.mem_iff_getElem?.1 hu
                have hp' : (Builtin.zeroCells z'.cells len)[p]? = some u := by simpa using hp
                have hlt : p < len * E.sz c := by rw [← hcs]; exact (Array.getElem?_eq_some_iff.1 hp').1
                rw [hcell p hlt] at hp'
                exact hone0 _ u hp'
              have hmul : off * g.s + len * E.sz c = g.L * g.s := by rw [hs, ← Nat.add_mul, hlen, hL]
              have hlv : ∀ j, j < (Builtin.zeroCells z'.cells len).toList.length → Live w g.b (off * g.s + 0 + j) := by
                intro j hj
                rw [Array.length_toList, hcs] at hj
                exact hlive _ (by omega)
              have hrun : (Builtin.clear_ ts ty #[a.eval x]).run E.P w = .ok (.tuple #[]) (writeCells w g.b (off * g.s) (Builtin.zeroCells z'.cells len).toList) := by
                obtain ⟨m, rfl⟩ : ∃ m, len = m + 1 := ⟨len - 1, by omega⟩
                unfold Builtin.clear_
                rw [e2]
                simp only [ht, show (#[Value.slice (some (at_ g.b (off * g.s))) (m + 1) cap] : Array Value)[0]? = some (Value.slice (some (at_ g.b (off * g.s))) (m + 1) cap) from rfl, run_bind, run_underlying ty w hu']
                simp only [run_zeroValue e w hi hz', run_bind]
                rw [run_storeCells g.b (off * g.s) _ w 0 hone hlv]
                rfl
              obtain ⟨dst, op', ty', pos, after, guard⟩ := o
              subst ho
              have hn0 : g.n ≠ 0 := by
                have h1 : 0 < len * E.sz c := Nat.mul_pos (by omega) hpos
                omega
              refine upon_of_value (v := .tuple #[]) (w' := writeCells w g.b (off * g.s) (Builtin.zeroCells z'.cells len).toList) (by
                rw [run_builtin, show Array.map a.eval #[x] = #[a.eval x] by simp]
                exact run_value (s := Builtin.clear_ ts ty' #[a.eval x]) hrun) ⟨φ, M, hrel.put hd (Phi.le_refl _) (Mem.le_refl _) (.tup rfl (fun i tv v h => by simp at h)) ?_⟩
              rw [setAll_one]
              have hwl : (Builtin.zeroCells z'.cells len).toList.length = len * E.sz c := by rw [Array.length_toList, hcs]
              refine hrel.mem.write hE.toEncOk hg hob1 (claim_own hg hn0) (claim_own' hg) _ _ ⟨g, hg, by simp; omega, hs, .inr hle, fun j hj => ?_, fun i1 x1 j tv hi1 hj => ?_⟩
              · obtain ⟨⟨u, hu⟩, hf⟩ := hlive j hj
                refine ⟨?_, by rw [writeCells_frozen]; exact hf⟩
                by_cases hin : off * g.s ≤ j ∧ j < off * g.s + len * E.sz c
                · obtain ⟨u', hu'⟩ : ∃ u', (Builtin.zeroCells z'.cells len).toList[j - off * g.s]? = some u' := ⟨_, List.getElem?_eq_getElem (by omega)⟩
                  have := writeCells_at (Builtin.zeroCells z'.cells len).toList w g.b (off * g.s) (fun q hq => (hlv q hq).1) _ u' hu'
                  rw [show off * g.s + (j - off * g.s) = j by omega] at this
                  exact ⟨u', this⟩
                · by_cases hlo : j < off * g.s
                  · exact ⟨u, by rw [writeCells_below _ w g.b _ j hlo]; exact hu⟩
                  · exact ⟨u, by rw [writeCells_above _ w g.b _ j (by omega)]; exact hu⟩
              · have hj2 : j < E.sz c := by rw [← hE.len c x1]; exact (List.getElem?_eq_some_iff.1 hj).1
                by_cases hio : i1 < off
                · rw [List.getElem?_append_left (by simp; omega), List.getElem?_take_of_lt hio] at hi1
                  obtain ⟨u, hu, hcr⟩ := hrow i1 x1 j tv hi1 hj
                  have hlt : i1 * g.s + j < off * g.s := by
                    have : (i1 + 1) * g.s ≤ off * g.s := Nat.mul_le_mul_right _ hio
                    rw [Nat.succ_mul] at this
                    omega
                  exact ⟨u, by rw [writeCells_below _ w g.b _ _ hlt]; exact hu, hcr⟩
                · have htl : (xs.take off).length = off := by simp; omega
                  rw [List.getElem?_append_right (by omega), htl] at hi1
                  have hx0 : x1 = x0 := (List.mem_replicate.1 (List.mem_of_getElem? hi1)).2
                  have hil : i1 - off < len := by have := (List.getElem?_eq_some_iff.1 hi1).1; simpa using this
                  subst hx0
                  obtain ⟨u, hu, hcr⟩ := hzcr j tv hj
                  have hpl : (i1 - off) * E.sz c + j < len * E.sz c := by
                    have : (i1 - off + 1) * E.sz c ≤ len * E.sz c := Nat.mul_le_mul_right _ hil
                    rw [Nat.succ_mul] at this
                    omega
                  refine ⟨u, ?_, hcr⟩
                  have := writeCells_at (Builtin.zeroCells z'.cells len).toList w g.b (off * g.s) (fun q hq => (hlv q hq).1) ((i1 - off) * E.sz c + j) u (by
                    rw [Array.getElem?_toList, hcell _ hpl]
                    rw [Nat.mul_comm (i1 - off), Nat.mul_add_mod, Nat.mod_eq_of_lt hj2]
                    exact hu)
                  rw [← this]
                  congr 2
                  rw [hs, ← Nat.add_assoc, ← Nat.add_mul]
                  congr 2
                  omega
          · cases h
        · cases h
      · cases h
    · cases h
  · cases h
end
end TE
