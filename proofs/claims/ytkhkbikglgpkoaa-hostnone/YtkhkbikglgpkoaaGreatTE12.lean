/- TE: append, literals of slices, make: as the evaluator meets them. -/
import Derived.Test.YtkhkbikglgpkoaaGreatTE11
namespace TE
open Go
variable {S : Sig} {E : Env S}
section
variable {R : Type} {k : Eff S → Option R} {r : R} {t : Nat → TV S} {ob : Nat → Option (Obj S)} {base : Nat} {o : Oper}

theorem mem_none {B : Base} {ob : Nat → Option (Obj S)} {w : World} {φ : Phi} {M : Mem} (h : RelW E B ob w φ M) (off : Nat) : M w.heap.size off = none := by
  cases hm : M w.heap.size off with
  | none => rfl
  | some v => have := size_of_cell (h.mval _ _ _ hm); omega
theorem le_setF {B : Base} {ob : Nat → Option (Obj S)} {w : World} {φ : Phi} {M : Mem} (h : RelW E B ob w φ M) {n : Nat} (hn : ob n = none) (g : GI) : φ.le (setF φ n (some g)) := Phi.le_of <| by
  intro n' g' h'
  by_cases e : n' = n
  · subst e; rw [h.fresh n' hn] at h'; cases h'
  · rw [setF_ne _ _ e]; exact h'

/-- A new row in a new block. -/
theorem RelW.newRow (hE : EncOk E) {B : Base} {ob : Nat → Option (Obj S)} {w : World} {φ : Phi} {M : Mem} (h : RelW E B ob w φ M) {nm : Nat} (hn : ob nm = none) (hB : B.m ≤ nm) {c : S.K} {xs : List (S.El c)} {m : RM} {us : List Value} {vs : Array Value} {e : TypeId}
    (hlen : us.length = xs.length * E.sz c) (hfit : us.length ≤ vs.size) (hpre : ∀ (i : Nat) (u : Value), us[i]? = some u → vs[i]? = some u) (hv : RowV E M c xs us) (htg : m = .app → S.tight c = true → xs = [] → vs.size = 0) :
    ∃ M', M.le M' ∧ RelW E B (setF ob nm (some (.row c xs m))) (w.alloc (.cells vs e)) (setF φ nm (some ⟨w.heap.size, E.sz c, xs.length, vs.size, fun _ => false⟩)) M' := by
  have hnone := mem_none h
  have live : ∀ j, j < vs.size → Live (w.alloc (.cells vs e)) w.heap.size j := fun j hj =>
    ⟨⟨vs[j], by simp only [at_, World.cell?_alloc_new]; exact Array.getElem?_eq_getElem hj⟩, by simp only [at_, World.frozen?_alloc_new]⟩
  cases m with
  | own =>
    refine ⟨M, Mem.le_refl _, h.new hE (g := ⟨w.heap.size, E.sz c, xs.length, vs.size, fun _ => false⟩) hn hB rfl (Mem.le_refl _) (fun b off hd => absurd rfl hd) (fun off v hv => by rw [hnone off] at hv; cases hv)
      (fun b f off hc _ => by have := claim_block (setF_self φ nm (some (⟨w.heap.size, E.sz c, xs.length, vs.size, fun _ => false⟩ : GI))) hc; rw [this]; exact hnone off)
      ⟨_, setF_self _ _ _, rfl, rfl, .inr (by simp only; omega), live, fun i x j tv hi hj => ?_⟩⟩
    obtain ⟨u, hu, hc⟩ := hv i x j tv hi hj
    exact ⟨u, by simp only [at_, World.cell?_alloc_new]; exact hpre _ u hu, hc⟩
  | app =>
    let M' : Mem := fun b off => if b = w.heap.size ∧ off < us.length then vs[off]? else M b off
    have hM : M.le M' := by
      intro b off v hb
      show (if _ then _ else _) = _
      rw [if_neg]
      · exact hb
      · rintro ⟨rfl, _⟩; rw [hnone off] at hb; cases hb
    refine ⟨M', hM, h.new hE (g := ⟨w.heap.size, E.sz c, xs.length, vs.size, fun _ => false⟩) hn hB rfl hM (fun b off hd => ?_) (fun off v hv => ?_) (fun b f off hc hf => ?_)
      ⟨_, setF_self _ _ _, rfl, rfl, .inr (by simp only; omega), fun j _ h2 => live j h2, fun i x j tv hi hj => ?_, htg rfl⟩⟩
    · have : ¬ ¬ (b = w.heap.size ∧ off < us.length) := fun hc => hd (if_neg hc)
      exact (Classical.not_not.1 this).1
    · by_cases hc : off < us.length
      · have : M' w.heap.size off = vs[off]? := if_pos ⟨rfl, hc⟩
        rw [this] at hv; exact hv
      · have : M' w.heap.size off = M w.heap.size off := if_neg (by omega)
        rw [this, hnone off] at hv; cases hv
    · obtain ⟨hb, hf'⟩ := claim_app' (setF_self φ nm (some (⟨w.heap.size, E.sz c, xs.length, vs.size, fun _ => false⟩ : GI))) b f hc
      simp only at hb hf'
      subst hb
      have : M' w.heap.size off = M w.heap.size off := if_neg (by omega)
      rw [this]; exact hnone off
    · obtain ⟨u, hu, hc⟩ := hv i x j tv hi hj
      have hlt : i * E.sz c + j < us.length := (List.getElem?_eq_some_iff.1 hu).1
      refine ⟨u, ?_, hc.mono hM⟩
      have : M' w.heap.size (i * E.sz c + j) = vs[i * E.sz c + j]? := if_pos ⟨rfl, hlt⟩
      simp only [this]; exact hpre _ u hu
  | ro =>
    let M' : Mem := fun b off => if b = w.heap.size ∧ off < us.length then vs[off]? else M b off
    have hM : M.le M' := by
      intro b off v hb
      show (if _ then _ else _) = _
      rw [if_neg]
      · exact hb
      · rintro ⟨rfl, _⟩; rw [hnone off] at hb; cases hb
    refine ⟨M', hM, h.new hE (g := ⟨w.heap.size, E.sz c, xs.length, vs.size, fun _ => false⟩) hn hB rfl hM (fun b off hd => ?_) (fun off v hv => ?_) (fun b f off hc hf => absurd hc claim_ro)
      ⟨_, setF_self _ _ _, rfl, rfl, .inl rfl, fun i x j tv hi hj => ?_⟩⟩
    · have : ¬ ¬ (b = w.heap.size ∧ off < us.length) := fun hc => hd (if_neg hc)
      exact (Classical.not_not.1 this).1
    · by_cases hc : off < us.length
      · have : M' w.heap.size off = vs[off]? := if_pos ⟨rfl, hc⟩
        rw [this] at hv; exact hv
      · have : M' w.heap.size off = M w.heap.size off := if_neg (by omega)
        rw [this, hnone off] at hv; cases hv
    · obtain ⟨u, hu, hc⟩ := hv i x j tv hi hj
      have hlt : i * E.sz c + j < us.length := (List.getElem?_eq_some_iff.1 hu).1
      refine ⟨u, ?_, hc.mono hM⟩
      have : M' w.heap.size (i * E.sz c + j) = vs[i * E.sz c + j]? := if_pos ⟨rfl, hlt⟩
      simp only [this]; exact hpre _ u hu

theorem sliceAt_new {c : S.K} {n b L : Nat} {cap : Nat} (h : L ≤ cap) (hcap : cap * E.sz c ≤ n) : SliceAt ⟨b, E.sz c, L, n, fun _ => false⟩ 0 L (.slice (some (at_ b 0)) L cap) :=
  ⟨_, _, rfl, h, by simp, .inr ⟨by simp, by simpa using hcap⟩⟩

theorem zeroCells_size (z : Array Value) (n : Nat) : (Builtin.zeroCells z n).size = n * z.size := by simp [Builtin.zeroCells]
theorem append_pre {a b c : Array Value} {i : Nat} {u : Value} (h : (a.toList ++ b.toList)[i]? = some u) : (a ++ b ++ c)[i]? = some u := by
  have h2 : ((a ++ b).toList)[i]? = some u := by simpa using h
  have hlt : i < (a ++ b).size := by have := (List.getElem?_eq_some_iff.1 h2).1; simpa using this
  rw [Array.getElem?_append_left hlt, ← Array.getElem?_toList]; exact h2

theorem RowV.append {M : Mem} {c : S.K} {xs ys : List (S.El c)} {us vs : List Value} (h1 : RowV E M c xs us) (h2 : RowV E M c ys vs) (hl : us.length = xs.length * E.sz c) : RowV E M c (xs ++ ys) (us ++ vs) := by
  intro i x j tv hi hj
  by_cases hix : i < xs.length
  · rw [List.getElem?_append_left hix] at hi
    obtain ⟨u, hu, hc⟩ := h1 i x j tv hi hj
    have hlt : i * E.sz c + j < us.length := (List.getElem?_eq_some_iff.1 hu).1
    exact ⟨u, by rw [List.getElem?_append_left hlt]; exact hu, hc⟩
  · rw [List.getElem?_append_right (by omega)] at hi
    obtain ⟨u, hu, hc⟩ := h2 _ x j tv hi hj
    refine ⟨u, ?_, hc⟩
    have hpos : i * E.sz c + j = us.length + ((i - xs.length) * E.sz c + j) := by
      have : i * E.sz c = xs.length * E.sz c + (i - xs.length) * E.sz c := by rw [← Nat.add_mul]; congr 1; omega
      omega
    rw [hpos, List.getElem?_append_right (by omega), Nat.add_sub_cancel_left]; exact hu
theorem RowV.mono {M M' : Mem} {c : S.K} {xs : List (S.El c)} {us : List Value} (h : M.le M') (h1 : RowV E M c xs us) : RowV E M' c xs us := fun i x j tv hi hj => by
  obtain ⟨u, hu, hc⟩ := h1 i x j tv hi hj
  exact ⟨u, hu, hc.mono h⟩

theorem run_append_op {P : Program} {args : Array Operand} {ts : Array TypeId} {dst : Option Tmp} {ty : TypeId} {pos : String} {after : Array Edge} {guard : Option (Nat × Bool)} {x y : Operand} (ha : args.toList = [x, y]) (ρ : Operand → Value) {w w' : World} {v : Value}
    (h : (Builtin.append_ ts ty #[ρ x, ρ y]).run P w = .ok v w') : (execOp ρ { dst, op := .call { callee := .builtin .append, args, argTypes := ts }, type := ty, pos, after, guard }).run P w = .ok (.value v) w' := by
  have hargs : args = #[x, y] := by rw [← Array.toArray_toList (xs := args), ha]
  subst hargs
  rw [run_builtin, show Array.map ρ #[x, y] = #[ρ x, ρ y] by simp]
  exact run_value h

theorem ok_append (hE : EnvOk E) {args : Array Operand} {ts : Array TypeId} {x y : Operand} {e e' : TypeId} {c : S.K} {m : RM} (ho : o.op = .call { callee := .builtin .append, args, argTypes := ts }) (ha : args.toList = [x, y])
    (h0 : (ts[0]?).bind E.P.underlying = some (.slice e)) (h1 : (ts[1]?).bind E.P.underlying = some (.slice e')) (hc : E.code e = some c) (h : appendEval ob base m c (ev t x) (ev t y) k = some r) : ∃ ef, k ef = some r ∧ OpOK E o t ob base ef := by
  obtain ⟨st, hst, hu⟩ : ∃ st, ts[0]? = some st ∧ E.P.underlying st = some (.slice e) := by
    cases h2 : ts[0]? with
    | none => rw [h2] at h0; cases h0
    | some st => rw [h2] at h0; exact ⟨st, rfl, h0⟩
  obtain ⟨xt, hxt, hux⟩ : ∃ xt, ts[1]? = some xt ∧ E.P.underlying xt = some (.slice e') := by
    cases h2 : ts[1]? with
    | none => rw [h2] at h1; cases h1
    | some st => rw [h2] at h1; exact ⟨st, rfl, h1⟩
  obtain ⟨i, hi, hsz, hb, z, hz, hzs⟩ := hE.size e c hc
  unfold appendEval at h
  split at h
  · cases h
  · rename_i ys hys
    -- what the second argument holds, in whatever state
    have rowNameRd : ∀ (ob' : Nat → Option (Obj S)), (∀ n ∈ rowName (ev t y), ob' n = ob n) → listOf ob' c (ev t y) = some ys := by
      intro ob' hag
      rw [← hys]
      unfold listOf
      cases hy : ev t y <;> simp only
      · rename_i nm; rw [hag nm (by rw [hy]; simp [rowName])]
      · rename_i nm _ _; rw [hag nm (by rw [hy]; simp [rowName])]
    have hopx : ∀ {a : Act} {φ : Phi} {M : Mem} {B : Base} {nt : Nat} {t' : Nat → TV S} {ob' : Nat → Option (Obj S)} {w : World}, (∀ x ∈ o.op.operands, VR E φ M (ev t x) (a.eval x)) → Rel E B nt t' ob' a w φ M → VR E φ M (ev t x) (a.eval x) ∧ VR E φ M (ev t y) (a.eval y) := by
      intro a φ M B nt t' ob' w hev hrel
      have hargs : args = #[x, y] := by rw [← Array.toArray_toList (xs := args), ha]
      have m1 : x ∈ o.op.operands := by rw [ho, hargs]; simp [Op.operands, Call.operands]
      have m2 : y ∈ o.op.operands := by rw [ho, hargs]; simp [Op.operands, Call.operands]
      exact ⟨hev x m1, hev y m2⟩
    -- a new array: the common end
    have grow : ∀ {B : Base} {nt : Nat} {t' : Nat → TV S} {ob1 : Nat → Option (Obj S)} {a : Act} {w : World} {φ : Phi} {M : Mem} {Q : Exit → Act → World → Prop} {ob' : Nat → Option (Obj S)} {ad : Option Addr} {cap : Nat} {xs : List (S.El c)} {xv : TV S} {m' : RM},
        dstOk nt o.dst = true → ob1 base = none → B.m ≤ base → Rel E B nt t' ob' a w φ M → RelW E B ob1 w φ M → a.eval x = .slice ad xs.length cap → xs.length + ys.length ≤ maxRow →
        listOf ob' c (ev t y) = some ys → VR E φ M (ev t y) (a.eval y) → listOf ob' c xv = some xs → VR E φ M xv (a.eval x) → ¬ xs.length + ys.length ≤ cap →
        o.upon E.P a (fun a' w' => ∃ φ' M', Rel E B nt (putDst t' o.dst (.slw base)) (setF ob1 base (some (.row c (xs ++ ys) m'))) a' w' φ' M') Q ((execOp a.eval o).run E.P w) := by
      intro B nt t' ob1 a w φ M Q ob' ad cap xs xv m' hd hnone hB hrel hW hx hmax hly hvy hlx hvx hle
      obtain ⟨_, hn, _⟩ := firstCells_ok hE hrel.mem hly hvy
      obtain ⟨us, _, hfc, hl1, hv1, _⟩ := firstCells_ok hE hrel.mem.drew hly hvy
      obtain ⟨us0, _, hfc0, hl0, hv0, _⟩ := firstCells_ok hE hrel.mem.drew hlx hvx
      rw [hx] at hfc0
      obtain ⟨x', hrun⟩ := run_append_grow (ty := o.type) (us := us) (us0 := us0) hst hu hxt hux hi hz hb hmax hn (by rw [hsz]; exact hfc) (by rw [hsz]; exact hfc0) hle
      rw [← hx] at hrun
      obtain ⟨M', hM', hW'⟩ := hW.drew.newRow hE.toEncOk (m := m') (e := e) (vs := us0.toArray ++ us.toArray ++ Builtin.zeroCells z.cells x') hnone hB (us := us0 ++ us) (xs := xs ++ ys)
        (by simp [hl0, hl1, Nat.add_mul]) (by simp) (fun i u hu => append_pre (by simpa using hu)) (hv0.append hv1 hl0) (fun _ _ he => absurd (by rw [(List.append_eq_nil_iff.1 he).1, (List.append_eq_nil_iff.1 he).2]; simp) hle)
      have hφ := le_setF hW.drew hnone (⟨w.drew.heap.size, E.sz c, (xs ++ ys).length, (us0.toArray ++ us.toArray ++ Builtin.zeroCells z.cells x').size, fun _ => false⟩ : GI)
      obtain ⟨dst, op', ty', pos, after, guard⟩ := o
      subst ho
      refine upon_of_value (run_append_op ha a.eval hrun) ⟨_, M', hrel.put hd hφ hM' ?_ hW'⟩
      refine .slw (setF_self _ _ _) ?_
      have : xs.length + ys.length = (xs ++ ys).length := by simp
      rw [this]
      refine sliceAt_new (E := E) (c := c) (by simp) ?_
      rw [← this]
      simp only [Array.size_append, List.size_toArray, zeroCells_size, hl0, hl1, hzs]
      rw [← Nat.add_mul, ← Nat.add_mul]
      exact Nat.le_refl _
    -- the cells, written into what is there
    have store : ∀ {w : World} {us : List Value} {ad : Option Addr} {cap L : Nat} {g : GI}, us.length = ys.length * E.sz c → (∀ v ∈ us, oneCell v = true) → (cap = 0 ∨ (ad = some (at_ g.b 0) ∧ cap * g.s ≤ g.n)) → L + ys.length ≤ cap →
        (∀ j, L * E.sz c ≤ j → j < (L + ys.length) * E.sz c → Live w g.b j) → ∃ W', (∀ q, ad = some q → (storeCells (q.add (L * i.size)) us).run E.P w = .ok () W') ∧ (ad = none → W' = w) ∧ W' = writeCells w g.b (L * E.sz c) us := by
      intro w us ad cap L g hlen hone had hle hlive
      refine ⟨_, fun q hq => ?_, fun hq => ?_, rfl⟩
      · by_cases hc0 : cap = 0
        · have h7 : us = [] := List.length_eq_zero_iff.1 (by rw [hlen, show ys.length = 0 by omega]; simp)
          subst h7; rfl
        · obtain ⟨h6, _⟩ := had.resolve_left hc0
          rw [h6] at hq; cases hq
          rw [at_add, run_storeCells g.b _ us w 0 hone (fun j hj => ?_)]
          · simp [hsz]
          · rw [hsz]
            refine hlive _ (by omega) ?_
            have : L * E.sz c + ys.length * E.sz c = (L + ys.length) * E.sz c := (Nat.add_mul ..).symm
            omega
      · rcases had with h5 | ⟨h5, _⟩
        · have h7 : us = [] := List.length_eq_zero_iff.1 (by rw [hlen, show ys.length = 0 by omega]; simp)
          subst h7; rfl
        · rw [h5] at hq; cases hq
    have onto : (∀ {a : Act} {φ : Phi} {M : Mem}, VR E φ M (ev t x) (a.eval x) → ∃ ad, a.eval x = .slice ad 0 0) → (∀ ob', listOf ob' c (ev t x) = some []) → (if ys.length ≤ maxRow then k ⟨.slw base, rowName (ev t y), [(base, .row c ys m)], base + 1⟩ else none) = some r → ∃ ef, k ef = some r ∧ OpOK E o t ob base ef := by
      intro hval hlx0 h
      split at h
      · rename_i hmax
        refine ⟨_, h, ⟨by simp, fun p hp => ?_, fun n h1 h2 => ?_, ?_⟩⟩
        · simp only [List.mem_singleton] at hp; subst hp; exact .inl ⟨Nat.le_refl _, Nat.lt_succ_self _⟩
        · simp only at h2; simp; omega
        · intro B nt t' ob' a w φ M Q hd hev hrd hfr hB hrel
          obtain ⟨vx, vy⟩ := hopx hev hrel
          have vx' := vx
          obtain ⟨ad0, ex⟩ := hval vx
          have hl := rowNameRd ob' hrd
          obtain ⟨us, hn, hfc, hlen, hrv, hone⟩ := firstCells_ok hE hrel.mem hl vy
          have hnone : ob' base = none := hfr base (Nat.le_refl _) (Nat.lt_succ_self _)
          by_cases hle : 0 + ys.length ≤ 0
          · -- nothing is appended: nil it stays
            have hy0 : ys = [] := List.length_eq_zero_iff.1 (by omega)
            subst hy0
            have hrun := run_append_room (ty := o.type) (a := ad0) (L := 0) (cap := 0) (n := 0) (x := a.eval y) (us := us) (w := w) (W' := w) hst hu hxt hux hi hn (by rw [hsz]; exact hfc) hle (fun q e => by (have h7 : us = [] := List.length_eq_zero_iff.1 (by rw [hlen]; simp)); subst h7; rfl) (fun _ => rfl)
            have hφ := le_setF hrel.mem hnone (⟨0, E.sz c, 0, 0, fun _ => false⟩ : GI)
            have hW : RelW E B (setF ob' base (some (.row c [] m))) w (setF φ base (some ⟨0, E.sz c, 0, 0, fun _ => false⟩)) M := by
              refine hrel.mem.step hE.toEncOk (· = base) (fun _ => False) hφ (Mem.le_refl _) (Nat.le_refl _) rfl rfl rfl (fun _ _ _ => rfl) (fun b hb => hb.elim) (fun b off hd => absurd rfl hd)
                (fun b off v h1 h2 => by rw [h1] at h2; cases h2) (fun n1 hn1 => ⟨setF_ne _ _ hn1, setF_ne _ _ hn1⟩) ?_ ?_ ?_ ?_ (fun n1 hn1 => setF_ne _ _ (by omega))
              · rintro n1 q rfl hq
                rw [setF_self] at hq; cases hq
                refine ⟨_, setF_self _ _ _, rfl, rfl, .inr (by simp), ?_⟩
                cases m with
                | own => exact ⟨fun j hj => by simp at hj, fun i x j tv hi => by simp at hi⟩
                | app => exact ⟨fun j _ hj => by simp at hj, fun i x j tv hi => by simp at hi, fun _ _ => rfl⟩
                | ro => exact fun i x j tv hi => by simp at hi
              · rintro n1 rfl hq
                rw [setF_self] at hq; cases hq
              · rintro n1 q b f rfl hq hcl
                rw [setF_self] at hq; cases hq
                have hcl := claim_gi (setF_self _ _ _) hcl
                cases m with
                | own => exact absurd rfl hcl.1
                | app => exact absurd rfl hcl.1
                | ro => exact hcl.elim
              · rintro n1 n2 _ _ _ _ _ rfl rfl _ _ _ _; rfl
            rw [← ex] at hrun
            obtain ⟨dst, op', ty', pos, after, guard⟩ := o
            subst ho
            refine upon_of_value (run_append_op ha a.eval hrun) ⟨_, M, hrel.put hd hφ (Mem.le_refl _) ?_ hW⟩
            exact .slw (setF_self _ _ _) ⟨ad0, 0, ex, by simp, by simp, .inl rfl⟩
          · have := grow (xs := []) (xv := ev t x) (m' := m) (Q := Q) hd hnone hB hrel hrel.mem ex (by simpa using hmax) hl vy (hlx0 ob') vx' (by simpa using hle)
            simpa [setAll_one] using this
      · cases h
    split at h
    · -- onto nil
      rename_i hx
      exact onto (fun v => by rw [hx] at v; exact ⟨_, v.nils⟩) (fun ob' => by rw [hx]; rfl) h
    · -- onto a plain slice that is empty and has no room
      rename_i d xs hx
      split at h
      · rename_i hc0
        simp only [Bool.and_eq_true, decide_eq_true_eq] at hc0
        obtain ⟨⟨ht, he⟩, rfl⟩ := hc0
        have he : xs = [] := by simpa using he
        subst he
        exact onto (fun v => by rw [hx] at v; exact v.tree_tight ht rfl) (fun ob' => by rw [hx]; simp [listOf, castRow]) h
      · cases h
    · -- onto a row
      rename_i nm hx
      split at h
      · rename_i d xs m' hob
        split at h
        · rename_i hdc
          subst hdc
          have hrowx : ∀ {B : Base} {ob' : Nat → Option (Obj S)} {w : World} {φ : Phi} {M : Mem} {u : Value}, ob' nm = ob nm → RelW E B ob' w φ M → VR E φ M (.slw nm) u → ∃ g ad cap, φ nm = some g ∧ u = .slice ad xs.length cap ∧ g.L = xs.length ∧ g.s = E.sz d ∧ xs.length ≤ cap ∧
              (cap = 0 ∨ (ad = some (at_ g.b 0) ∧ cap * g.s ≤ g.n)) := by
            intro B ob' w φ M u hag hW hv
            obtain ⟨g, hg, ad, cap, rfl, h3, _, h4⟩ := hv.slw_inv
            obtain ⟨g', hg', hL, hs, _⟩ := hW.objs nm _ (by rw [hag]; exact hob)
            rw [hg] at hg'; cases hg'
            exact ⟨g, ad, cap, hg, by rw [hL], hL, hs, by omega, h4.imp id (fun e => ⟨by rw [e.1]; simp, by simpa using e.2⟩)⟩
          have fits : ∀ {cap : Nat} {g : GI} {ad : Option Addr}, g.s = E.sz d → (cap = 0 ∨ (ad = some (at_ g.b 0) ∧ cap * g.s ≤ g.n)) → xs.length + ys.length ≤ cap → (xs.length + ys.length) * E.sz d ≤ g.n := by
            intro cap g ad hs had hle
            rcases had with h5 | ⟨_, h5⟩
            · have h6 : xs.length + ys.length = 0 := by omega
              rw [h6]; simp
            · rw [hs] at h5; exact Nat.le_trans (Nat.mul_le_mul_right _ hle) h5
          split at h
          · -- onto one that may be appended to: the old one stays readable
            split at h
            · rename_i hmax
              refine ⟨_, h, ⟨by simp, fun p hp => ?_, fun n h1 h2 => ?_, ?_⟩⟩
              · simp only [List.mem_cons, List.not_mem_nil, or_false] at hp
                rcases hp with rfl | rfl
                · exact .inr ⟨by simp, by simp [hob]⟩
                · exact .inl ⟨Nat.le_refl _, Nat.lt_succ_self _⟩
              · simp only at h2; simp; omega
              · intro B nt t' ob' a w φ M Q hd hev hrd hfr hB hrel
                obtain ⟨vx, vy⟩ := hopx hev hrel
                have vx' := vx
                rw [hx] at vx
                have hag : ob' nm = ob nm := hrd nm (by simp)
                have hob2 : ob' nm = some (.row d xs .app) := by rw [hag]; exact hob
                obtain ⟨g, ad, cap, hg, ex, hL, hs, hcap, had⟩ := hrowx hag hrel.mem vx
                have hl := rowNameRd ob' (fun n hn => hrd n (by simp [hn]))
                have hnone : ob' base = none := hfr base (Nat.le_refl _) (Nat.lt_succ_self _)
                have hne : nm ≠ base := by intro e; subst e; rw [hob2] at hnone; cases hnone
                have hlx : listOf ob' d (ev t x) = some xs := by rw [hx]; simp [listOf, hob2, castRow]
                by_cases hle : xs.length + ys.length ≤ cap
                · obtain ⟨us, hn, hfc, hlen, hrv, hone⟩ := firstCells_ok hE hrel.mem hl vy
                  obtain ⟨g', hg', _, _, hfitL, hrow⟩ := hrel.mem.objs nm _ hob2
                  rw [hg] at hg'; cases hg'
                  have hfit' := fits hs had hle
                  obtain ⟨M', hM', hφ, hW'⟩ := hrel.mem.growApp hE.toEncOk hg hob2 hnone hB us hlen hfit' hrv
                  obtain ⟨W', hs1, hs2, hs3⟩ := store hlen hone had hle (fun j h1 h2 => hrow.1 j (by rw [hL, hs]; exact h1) (by omega))
                  have hrun := run_append_room (ty := o.type) (W' := W') hst hu hxt hux hi hn (by rw [hsz]; exact hfc) hle hs1 hs2
                  rw [← ex, hs3] at hrun
                  obtain ⟨dst, op', ty', pos, after, guard⟩ := o
                  subst ho
                  refine upon_of_value (run_append_op ha a.eval hrun) ⟨_, M', hrel.put hd hφ hM' ?_ hW'⟩
                  exact .slw (setF_self _ _ _) ⟨ad, cap, rfl, hle, by simp, had.imp id (fun e => ⟨by simpa using e.1, by simpa using e.2⟩)⟩
                · have := grow (xs := xs) (xv := ev t x) (m' := .app) (Q := Q) hd (by rw [setF_ne _ _ (Ne.symm hne)]; exact hnone) hB hrel (hrel.mem.appRo hE.toEncOk hob2) ex hmax hl vy hlx vx' hle
                  exact this
            · cases h
          · -- onto one of the call's own
            split at h
            · rename_i hmax
              refine ⟨_, h, ⟨by simp, fun p hp => ?_, fun n h1 h2 => ?_, ?_⟩⟩
              · simp only [List.mem_cons, List.not_mem_nil, or_false] at hp
                rcases hp with rfl | rfl
                · exact .inr ⟨by simp, by simp [hob]⟩
                · exact .inl ⟨Nat.le_refl _, Nat.lt_succ_self _⟩
              · simp only at h2; simp; omega
              · intro B nt t' ob' a w φ M Q hd hev hrd hfr hB hrel
                obtain ⟨vx, vy⟩ := hopx hev hrel
                have vx' := vx
                rw [hx] at vx
                have hag : ob' nm = ob nm := hrd nm (by simp)
                have hob2 : ob' nm = some (.row d xs .own) := by rw [hag]; exact hob
                obtain ⟨g, ad, cap, hg, ex, hL, hs, hcap, had⟩ := hrowx hag hrel.mem vx
                have hl := rowNameRd ob' (fun n hn => hrd n (by simp [hn]))
                have hnone : ob' base = none := hfr base (Nat.le_refl _) (Nat.lt_succ_self _)
                have hne : nm ≠ base := by intro e; subst e; rw [hob2] at hnone; cases hnone
                have hlx : listOf ob' d (ev t x) = some xs := by rw [hx]; simp [listOf, hob2, castRow]
                by_cases hle : xs.length + ys.length ≤ cap
                · obtain ⟨us, hn, hfc, hlen, hrv, hone⟩ := firstCells_ok hE hrel.mem hl vy
                  obtain ⟨g', hg', _, _, hfitL, hrow⟩ := hrel.mem.objs nm _ hob2
                  rw [hg] at hg'; cases hg'
                  have hfit' := fits hs had hle
                  obtain ⟨hφ, hW'⟩ := hrel.mem.growOwn hE.toEncOk hg hob2 hnone hB us hlen hfit' hrv
                  obtain ⟨W', hs1, hs2, hs3⟩ := store hlen hone had hle (fun j h1 h2 => hrow.1 j (by omega))
                  have hrun := run_append_room (ty := o.type) (W' := W') hst hu hxt hux hi hn (by rw [hsz]; exact hfc) hle hs1 hs2
                  rw [← ex, hs3] at hrun
                  obtain ⟨dst, op', ty', pos, after, guard⟩ := o
                  subst ho
                  refine upon_of_value (run_append_op ha a.eval hrun) ⟨_, M, hrel.put hd hφ (Mem.le_refl _) ?_ hW'⟩
                  exact .slw (setF_self _ _ _) ⟨ad, cap, rfl, hle, by simp, had.imp id (fun e => ⟨by simpa using e.1, by simpa using e.2⟩)⟩
                · have := grow (xs := xs) (xv := ev t x) (m' := .own) (Q := Q) hd (by rw [setF_ne _ _ (Ne.symm hne)]; exact hnone) hB hrel (hrel.mem.gone hE.toEncOk (by rw [hob2]; simp)) ex hmax hl vy hlx vx' hle
                  exact this
            · cases h
          · cases h
        · cases h
      · cases h
    · cases h
end
end TE
