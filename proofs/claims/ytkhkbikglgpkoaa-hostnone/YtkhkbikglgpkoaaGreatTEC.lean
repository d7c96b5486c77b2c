/- TE: calls with more than one outcome. -/
import Derived.Test.YtkhkbikglgpkoaaGreatTE18
namespace TE
open Go
variable {S : Sig} {E : Env S}

/-- A contract with more than one outcome. -/
def CallOKs (E : Env S) (f : FuncId) (args : List (TV S)) (objs : List (Obj S)) (Q : Res S → Prop) : Prop :=
  (∃ fn, E.P.funcs[f]? = some fn ∧ (fn.name == "runtime.NumGoroutine") = false ∧ fn.body.isNone = false) ∧
  ∀ (B : Base) (vals : Array Value), B.m = objs.length → args.length = vals.size → (∀ (i : Nat) (tv : TV S) (v : Value), args[i]? = some tv → vals[i]? = some v → VR E B.φ B.M tv v) →
    RelW E B (fun i => objs[i]?) B.w B.φ B.M →
    Calls E.P f vals B.w fun e w' => ∃ res, Q res ∧ ∃ v φ' M', e = .returned v ∧ VR E φ' M' res.v v ∧ RelW E B (fun i => (res.xs.getD objs ++ res.ns)[i]?) w' φ' M'
theorem CallOK.some {f : FuncId} {args : List (TV S)} {objs : List (Obj S)} {res : Res S} (h : CallOK E f args objs res) : CallOKs E f args objs (· = res) :=
  ⟨h.1, fun B vals h1 h2 h3 h4 => (h.2 B vals h1 h2 h3 h4).mono fun _ _ h => ⟨res, rfl, h⟩⟩
theorem CallOKs.one {f : FuncId} {args : List (TV S)} {objs : List (Obj S)} {res : Res S} (h : CallOKs E f args objs (· = res)) : CallOK E f args objs res :=
  ⟨h.1, fun B vals h1 h2 h3 h4 => (h.2 B vals h1 h2 h3 h4).mono fun _ _ ⟨_, e, h⟩ => e ▸ h⟩
/-- The table of contracts with many outcomes says what is so. -/
def CallmOK (E : Env S) (H : Hint S) : Prop :=
  ∀ (f : FuncId) (args : List (TV S)) (objs : List (Obj S)) (R : Type) [Subsingleton R] (k : Res S → Option R) (r : R), H.callm f args objs R k = some r → CallOKs E f args objs fun res => k res = some r
theorem CallmOK.none {H : Hint S} (h : H.callm = fun _ _ _ _ _ => none := by rfl) : CallmOK E H := fun f args objs R _ k r hk => by rw [h] at hk; cases hk

theorem Oper.upon_mono' {P : Program} {o : Oper} {a : Act} {K K' : Act → World → Prop} {Q : Exit → Act → World → Prop} {res : Result Next} (hh : o.upon P a K Q res) (h : ∀ a w, K a w → K' a w) : o.upon P a K' Q res := by
  revert hh
  cases res with
  | halt hh w => cases hh <;> exact id
  | ok n w =>
    cases n with
    | value v => exact fun x => h _ _ x
    | skip => exact fun x => h _ _ x
    | defer d => exact fun x => h _ _ x
    | enter f args =>
      intro x
      exact Calls.mono x fun e w'' y => by
        cases e with
        | returned v => exact h _ _ y
        | panicked c => exact y
        | outgrown => exact y
    | row row args => exact fun x => Rows.mono x fun v w'' y => h _ _ y
    | _ => exact id
section
variable {R : Type} [Subsingleton R] {k : Eff S → Option R} {r : R} {t t' : Nat → TV S} {ob ob' : Nat → Option (Obj S)} {base : Nat} {o : Oper}
/-- A call with many outcomes, in a state that agrees with the one at hand on what the call touches. -/
theorem ok_callM' (hE : EnvOk E) {H : Hint S} (hm : CallmOK E H) {f : Operand} {args : Array Operand} {ts : Array TypeId} {g : FuncId} {cap args' : List (TV S)} {ks : List Nat} (ho : o.op = .call { callee := .value f, args, argTypes := ts }) (hg : ev t f = .fn g cap)
    (hshare : shareArgs E ob g 0 (args.toList.map (ev t) ++ cap) = some args') (hks : reach ob 400 (namesL args') [] = ks)
    (h : callEvalM E H ob base g (args.toList.map (ev t) ++ cap) k = some r) (B : Base) (nt : Nat) (a : Act) (w : World) (φ : Phi) (M : Mem) (Q : Exit → Act → World → Prop)
    (hd : dstOk nt o.dst = true) (hev : ∀ x ∈ o.op.operands, VR E φ M (ev t x) (a.eval x)) (hrd : ∀ n ∈ namesL (args.toList.map (ev t) ++ cap) ++ ks, ob' n = ob n) (hfr : ∀ n, base ≤ n → ob' n = none) (hB : B.m ≤ base) (hrel : Rel E B nt t' ob' a w φ M) :
    o.upon E.P a (fun a' w' => ∃ ef, k ef = some r ∧ base ≤ ef.nx ∧ (∀ p ∈ ef.wr, p.1 ∈ ks ∨ (base ≤ p.1 ∧ p.1 < ef.nx)) ∧ (∀ n ∈ ks, ∃ x, ob n = some x) ∧ ∃ φ' M', Rel E B nt (putDst t' o.dst ef.v) (setAll ob' ef.wr) a' w' φ' M') Q ((execOp a.eval o).run E.P w) := by
  unfold callEvalM at h
  rw [hshare] at h
  simp only at h
  split at h
  rotate_left
  · cases h
  rename_i hclosed
  have hcalls := hm _ _ _ _ _ _ h
  obtain ⟨fn, hfn, hname, hbody⟩ := hcalls.1
  subst hks
  generalize hks : reach ob 400 (namesL args') [] = ks at *
  have hnd : ks.Nodup := by rw [← hks]; exact reach_nodup ob 400 _ _ (by simp)
  -- agreement
  have hagA : ∀ n ∈ namesL (args.toList.map (ev t) ++ cap), ob' n = ob n := fun n hn => hrd n (List.mem_append_left _ hn)
  have hagK : ∀ n ∈ ks, ob' n = ob n := fun n hn => hrd n (List.mem_append_right _ hn)
  have hclosed' : closedUnder ob' ks (namesL args') = true := by
    simp only [closedUnder, Bool.and_eq_true, List.all_eq_true] at hclosed ⊢
    exact ⟨hclosed.1, fun n hn => by rw [hagK n hn]; exact hclosed.2 n hn⟩
  -- the model's call
  have vf : VR E φ M (ev t f) (a.eval f) := hev f (by rw [ho]; simp [Op.operands, Call.operands])
  rw [hg] at vf
  obtain ⟨cvs, ef, hcl, hcv⟩ := vf.fn_inv
  have vargs : ∀ x ∈ args.toList, VR E φ M (ev t x) (a.eval x) := fun x hx => hev x (by rw [ho]; simp [Op.operands, Call.operands]; exact .inr (by simpa using hx))
  let vals : Array Value := args.map a.eval ++ cvs
  have hrun : (execOp a.eval o).run E.P w = .ok (.enter g vals) w := by
    obtain ⟨dst, op', ty', pos, after, guard⟩ := o
    subst ho
    simp only [execOp, resolve, ef]
    rw [run_bind]
    show (match Sem.run E.P (Deferred.ofValue (.func (.func g) #[] cvs) (args.map a.eval)) w with | .ok d w' => _ | .halt h w' => Result.halt h w') = _
    simp only [Deferred.ofValue, run_pure, invoke, callFunc]
    rw [run_bind]
    show Sem.run E.P (match E.P.funcs[g]? with | none => _ | some fn => _) w = _
    rw [hfn]
    simp only [hname, Bool.false_eq_true, if_false, hbody, run_pure]
    simp [vals]
  rw [hrun]
  show Calls E.P g vals w _
  -- what comes in
  have hVR : (args.toList.map (ev t) ++ cap).length = vals.size ∧ ∀ (i : Nat) (x : TV S) (v : Value), (args.toList.map (ev t) ++ cap)[i]? = some x → vals[i]? = some v → VR E φ M x v := by
    refine ⟨by simp [vals, hcl], fun i x v hx hv => ?_⟩
    by_cases hi : i < args.size
    · rw [List.getElem?_append_left (by simpa using hi)] at hx
      simp only [vals] at hv
      rw [Array.getElem?_append_left (by simpa using hi)] at hv
      simp [hi] at hx hv
      subst hx; subst hv
      exact vargs _ (by simp)
    · rw [List.getElem?_append_right (by simp; omega)] at hx
      simp only [vals] at hv
      rw [Array.getElem?_append_right (by simp; omega)] at hv
      simp at hx hv
      exact hcv _ x v hx hv
  obtain ⟨hsl, hsv⟩ := share_VR hE.toEncOk (f := g) hrel.mem _ 0 args' hagA hshare
  let own : Nat → Prop := fun b => ∃ n x fr, n ∈ ks ∧ ob' n = some x ∧ claim φ n x b fr
  let φc : Phi := fun (i : Nat) => (ks[i]?).bind φ
  let Bc : Base := ⟨w, own, M, φc, ks.length⟩
  have hstart : RelW E Bc (fun (i : Nat) => (ks[i]?).map fun n => renObj (fun n => ks.idxOf n) ((ob' n).getD .gone)) w φc M :=
    hrel.mem.tidy hnd hclosed' ⟨rfl, rfl, rfl, Nat.le_refl _, fun _ _ _ => rfl, Mem.le_refl _, fun b off hd => absurd rfl hd, Nat.le_refl _⟩
      (fun i n x b fr hi hx hc => .inr ⟨n, x, fr, List.mem_of_getElem? hi, hx, hc⟩) (fun i _ => rfl)
  have hobjs : (fun (i : Nat) => (ks[i]?).map fun n => renObj (fun n => ks.idxOf n) ((ob' n).getD .gone)) = fun (i : Nat) => (ks.map fun n => renObj (fun n => ks.idxOf n) ((ob n).getD .gone))[i]? := by
    funext i
    rw [List.getElem?_map]
    cases hk : ks[i]? with
    | none => rfl
    | some n => simp only [Option.map_some]; rw [hagK n (List.mem_of_getElem? hk)]
  rw [hobjs] at hstart
  refine (hcalls.2 Bc vals (by simp [Bc]) (by rw [renL_length, hsl]; exact hVR.1) (fun i tv v h1 h2 => ?_) hstart).mono ?_
  · rw [renL_get] at h1
    obtain ⟨y, hy, rfl⟩ := Option.map_eq_some_iff.1 h1
    have hi : i < (args.toList.map (ev t) ++ cap).length := by rw [← hsl]; exact (List.getElem?_eq_some_iff.1 hy).1
    obtain ⟨x, hx⟩ : ∃ x, (args.toList.map (ev t) ++ cap)[i]? = some x := ⟨_, List.getElem?_eq_getElem hi⟩
    obtain ⟨y', hy', hv'⟩ := hsv i x v hx (hVR.2 i x v hx h2)
    rw [hy] at hy'; cases hy'
    refine hv'.ren fun n hn g' hg' => ?_
    show (ks[ks.idxOf n]?).bind φ = some g'
    rw [get_idx (closed_roots hclosed (namesL_mem hy hn))]; exact hg'
  · rintro e w' ⟨res, hres, v, φ2, M2, rfl, hv, hW⟩
    split at hres
    rotate_left
    · cases hres
    rename_i hxs
    -- the objects, as they are now, by the caller's names
    generalize hobj0 : (ks.map fun n => renObj (fun n => ks.idxOf n) ((ob n).getD .gone)) = objs at *
    have hol : objs.length = ks.length := by rw [← hobj0]; simp
    let fx : List (Obj S) := res.xs.getD objs
    have hfl : fx.length = ks.length := by
      simp only [fx]
      cases hx : res.xs with
      | none => exact hol
      | some xs => rw [hx] at hxs; simpa [xsOk] using hxs
    let bk := backTo ks base
    let φ' : Phi := fun n => if base ≤ n ∧ n < base + res.ns.length then φ2 (ks.length + (n - base)) else if n ∈ ks then φ2 (ks.idxOf n) else φ n
    have hnew : ∀ n, base ≤ n → n < base + res.ns.length → ob' n = none := fun n h1 _ => hfr n h1
    have hksnew : ∀ n ∈ ks, ¬ (base ≤ n ∧ n < base + res.ns.length) := by
      rintro n hn ⟨h1, h2⟩
      obtain ⟨x, hx, _⟩ := closed_objs hclosed' hn
      rw [hnew n h1 h2] at hx; cases hx
    have hφks : ∀ (i n : Nat), ks[i]? = some n → φ' n = φ2 i ∧ (φ2 i).map GI.strip = (φ n).map GI.strip := by
      intro i n hi
      have hmem := List.mem_of_getElem? hi
      refine ⟨(if_neg (hksnew n hmem)).trans ((if_pos hmem).trans (by rw [idx_get hnd hi])), ?_⟩
      rw [hW.ext i (List.getElem?_eq_some_iff.1 hi).1]
      show ((ks[i]?).bind φ).map GI.strip = _
      rw [hi]; rfl
    have hback : ∀ j g', φ2 j = some g' → φ' (bk j) = some g' := by
      intro j g' hj
      show φ' (backTo ks base j) = _
      unfold backTo
      cases hk : ks[j]? with
      | some n =>
        simp only
        obtain ⟨h1, h2⟩ := hφks j n hk
        rw [h1]; exact hj
      | none =>
        simp only
        have hge : ks.length ≤ j := List.getElem?_eq_none_iff.1 hk
        have hlt : j - ks.length < res.ns.length := by
          rcases Nat.lt_or_ge (j - ks.length) res.ns.length with h' | h'
          · exact h'
          · have := hW.fresh j (by
              show (fx ++ res.ns)[j]? = none
              rw [List.getElem?_eq_none_iff, List.length_append]; omega)
            rw [hj] at this; cases this
        show (if _ then _ else _) = _
        rw [if_pos (by omega)]
        rw [show ks.length + (base + (j - ks.length) - base) = j by omega]; exact hj
    have hφle : φ.le φ' := by
      intro n g' hn
      by_cases hr : base ≤ n ∧ n < base + res.ns.length
      · rw [hrel.mem.fresh n (hnew n hr.1 hr.2)] at hn; cases hn
      · by_cases hk : n ∈ ks
        · obtain ⟨i, hi⟩ := List.mem_iff_getElem?.1 hk
          obtain ⟨h1, h2⟩ := hφks i n hi
          rw [hn] at h2
          obtain ⟨g2, h3, h4⟩ := Option.map_eq_some_iff.1 h2
          exact ⟨g2.F, by rw [h1, h3]; exact congrArg some (GI.strip_eq h4)⟩
        · exact ⟨g'.F, (if_neg hr).trans ((if_neg hk).trans hn)⟩
    let wr : List (Nat × Obj S) := zipBack ks base res.xs ++ (res.ns.zipIdx.map fun p => (base + p.2, renObj bk p.1))
    have hwrK : ∀ (i n : Nat), ks[i]? = some n → ∃ y, fx[i]? = some y ∧ setAll ob' wr n = some (renObj bk y) := by
      intro i n hi
      obtain ⟨y, hy⟩ : ∃ y, fx[i]? = some y := ⟨_, List.getElem?_eq_getElem (by rw [hfl]; exact (List.getElem?_eq_some_iff.1 hi).1)⟩
      refine ⟨y, hy, ?_⟩
      have hnn := hksnew n (List.mem_of_getElem? hi)
      simp only [wr, setAll_append]
      rw [setAll_new base res.ns 0 _ (renObj bk) n, if_neg (by simpa using hnn)]
      cases hx : res.xs with
      | some xs =>
        simp only [fx, hx, Option.getD_some] at hy hfl
        simp only [zipBack]
        rw [setAll_zip ks _ ob' hnd (by simp [hfl]) i n hi, List.getElem?_map, hy]; rfl
      | none =>
        simp only [fx, hx, Option.getD_none] at hy
        simp only [zipBack, setAll]
        rw [← hobj0, List.getElem?_map, hi] at hy
        simp only [Option.map_some, Option.some.injEq] at hy
        obtain ⟨x, hx', hm⟩ := closed_objs hclosed' (List.mem_of_getElem? hi)
        rw [← hagK n (List.mem_of_getElem? hi), hx'] at hy
        simp only [Option.getD_some] at hy
        rw [hx', ← hy]
        congr 1
        symm
        refine renObj_renObj x fun m hmx => ?_
        show backTo ks base (ks.idxOf m) = m
        unfold backTo
        rw [get_idx (hm m hmx)]
    have hwrN : ∀ n, base ≤ n → n < base + res.ns.length → setAll ob' wr n = (res.ns[n - base]?).map (renObj bk) := by
      intro n h1 h2
      simp only [wr, setAll_append]
      rw [setAll_new base res.ns 0 _ (renObj bk) n, if_pos (by omega)]; simp
    have hwrO : ∀ n, ¬ (n ∈ ks ∨ (base ≤ n ∧ n < base + res.ns.length)) → setAll ob' wr n = ob' n := by
      intro n hn
      simp only [wr, setAll_append]
      rw [setAll_new base res.ns 0 _ (renObj bk) n, if_neg (by simp; omega)]
      refine setAll_not _ _ fun hc => ?_
      cases hx : res.xs with
      | none => rw [hx] at hc; simp [zipBack] at hc
      | some xs => rw [hx] at hc; exact hn (.inl (zip_names _ _ n hc))
    -- by whichever name: the callee's index
    have hidx : ∀ n x, (n ∈ ks ∨ (base ≤ n ∧ n < base + res.ns.length)) → setAll ob' wr n = some x → ∃ i y, (fx ++ res.ns)[i]? = some y ∧ x = renObj bk y ∧ bk i = n ∧ φ' n = φ2 i := by
      intro n x hn hx
      rcases hn with hn | ⟨h1, h2⟩
      · obtain ⟨i, hi⟩ := List.mem_iff_getElem?.1 hn
        obtain ⟨y, hy, hs⟩ := hwrK i n hi
        rw [hx] at hs; cases hs
        refine ⟨i, y, by rw [List.getElem?_append_left (List.getElem?_eq_some_iff.1 hy).1]; exact hy, rfl, ?_, ?_⟩
        · show backTo ks base i = n
          unfold backTo; rw [hi]
        · exact (hφks i n hi).1
      · rw [hwrN n h1 h2] at hx
        obtain ⟨y, hy, rfl⟩ := Option.map_eq_some_iff.1 hx
        refine ⟨ks.length + (n - base), y, ?_, rfl, ?_, if_pos ⟨h1, h2⟩⟩
        · rw [List.getElem?_append_right (by omega)]
          rw [← hy]; congr 1; omega
        · show backTo ks base _ = n
          unfold backTo
          rw [List.getElem?_eq_none_iff.2 (by omega)]
          simp only; omega
    have hWnew : RelW E B (setAll ob' wr) w' φ' M2 := by
      refine hrel.mem.step2 hE.toEncOk (fun n => n ∈ ks ∨ (base ≤ n ∧ n < base + res.ns.length)) own hφle hW.mle hW.size hW.os hW.tape hW.output (fun b hb hn => hW.kept b hb hn) ?_ ?_ ?_ ?_ ?_ ?_ ?_ ?_ ?_ hW.drawn
      · rintro b ⟨n, x, fr, hn, hx, hc⟩
        refine ⟨n, x, fr, .inl hn, hx, hc, fun off hoff => ?_⟩
        -- the cells below are those of a row that does not change
        have hcell : ∃ u, M b off = some u := by
          cases x with
          | gone => exact absurd hc claim_gone
          | deep c xs => have := hc.choose_spec.2.2; omega
          | raw s cs =>
            obtain ⟨g', hg', _⟩ := hrel.mem.objs n _ hx
            have := (claim_raw' hg' _ _ hc).2; omega
          | box cs =>
            obtain ⟨g', hg', _⟩ := hrel.mem.objs n _ hx
            have := (claim_box' hg' _ _ hc).2; omega
          | mapo _ _ _ _ _ _ _ =>
            obtain ⟨g', hg', _⟩ := hrel.mem.objs n _ hx
            have := (claim_mapo' hg' _ _ hc).2; omega
          | iter _ _ _ _ =>
            obtain ⟨g', _, hg', _⟩ := hrel.mem.objs n _ hx
            have := (claim_iter' hg' _ _ hc).2; omega
          | row c xs mm =>
            obtain ⟨g', hg', hL, hs, _, hr⟩ := hrel.mem.objs n _ hx
            cases mm with
            | ro => exact absurd hc claim_ro
            | own => have := (claim_own' hg' _ _ hc).2; omega
            | app =>
              obtain ⟨rfl, rfl⟩ := claim_app' hg' _ _ hc
              rw [hL, hs] at hoff
              obtain ⟨i, y, j, tv, p1, p2, p3⟩ := split_pos hE.toEncOk hoff
              obtain ⟨u, hu, _⟩ := hr.2.1 i y j tv p1 p2
              exact ⟨u, by rw [p3, ← hs]; exact hu⟩
        obtain ⟨u, hu⟩ := hcell
        rw [hW.mval b off u (hW.mle b off u hu), hrel.mem.mval b off u hu]
      · intro b off hne
        exact (hW.mnew b off hne).symm
      · intro b off v h1 _
        exact hW.mval b off v h1
      · intro n hn
        exact ⟨hwrO n hn, (if_neg fun hc => hn (.inr hc)).trans (if_neg fun hc => hn (.inl hc))⟩
      · intro n x hn hx
        obtain ⟨i, y, hi, rfl, hb, hp⟩ := hidx n x hn hx
        exact (hW.objs i y hi).ren (fun g' hg' => by rw [hp]; exact hg') (fun m _ g' hg' => hback m g' hg')
      · intro n hn hx
        rcases hn with hn | ⟨h1, h2⟩
        · obtain ⟨i, hi⟩ := List.mem_iff_getElem?.1 hn
          obtain ⟨y, _, hs⟩ := hwrK i n hi
          rw [hx] at hs; cases hs
        · rw [hwrN n h1 h2, List.getElem?_eq_getElem (by omega)] at hx; cases hx
      · intro n x b fr hn hx hc
        obtain ⟨i, y, hi, rfl, hb, hp⟩ := hidx n x hn hx
        rw [claim_ren hp] at hc
        refine ⟨hW.csz i y b fr hi hc, ?_, fun off hoff => hW.mdis i y b fr off hi hc hoff⟩
        rcases hW.perm i y b fr hi hc with h1 | ⟨n', x', fr', h1, h2, h3⟩
        · exact .inl h1
        · exact .inr ⟨n', x', fr', .inl h1, h2, h3⟩
      · intro n1 n2 x1 x2 b f1 f2 hn1 hn2 hx1 hx2 hc1 hc2
        obtain ⟨i1, y1, hi1, rfl, hb1, hp1⟩ := hidx n1 x1 hn1 hx1
        obtain ⟨i2, y2, hi2, rfl, hb2, hp2⟩ := hidx n2 x2 hn2 hx2
        rw [claim_ren hp1] at hc1
        rw [claim_ren hp2] at hc2
        have := hW.sep i1 i2 y1 y2 b f1 f2 hi1 hi2 hc1 hc2
        rw [← hb1, ← hb2, this]
      · intro n hn
        have h0 : ¬ (base ≤ n ∧ n < base + res.ns.length) := by omega
        by_cases hk : n ∈ ks
        · obtain ⟨i, hi⟩ := List.mem_iff_getElem?.1 hk
          obtain ⟨h1, h2⟩ := hφks i n hi
          rw [h1]; exact h2
        · exact congrArg (Option.map GI.strip) ((if_neg h0).trans (if_neg hk))
    refine ⟨_, hres, by simp, fun p hp => ?_, fun n hn => ?_, φ', M2, hrel.put hd hφle hW.mle (hv.ren fun n _ g' hg' => hback n g' hg') hWnew⟩
    · simp only [List.mem_append] at hp
      rcases hp with hp | hp
      · left
        cases hx : res.xs with
        | none => rw [hx] at hp; simp [zipBack] at hp
        | some xs => rw [hx] at hp; exact (List.of_mem_zip hp).1
      · right
        simp only [List.mem_map] at hp
        obtain ⟨q, hq, rfl⟩ := hp
        have := List.mem_zipIdx hq
        simp only; omega
    · obtain ⟨x, hx, _⟩ := closed_objs hclosed hn
      exact ⟨x, hx⟩
end
section
variable {R : Type} [Subsingleton R] {k : Eff S → Option R} {r : R} {t : Nat → TV S} {ob : Nat → Option (Obj S)} {base : Nat} {o : Oper}
theorem ok_callM (hE : EnvOk E) {H : Hint S} (hm : CallmOK E H) {f : Operand} {args : Array Operand} {ts : Array TypeId} {g : FuncId} {cap : List (TV S)} (ho : o.op = .call { callee := .value f, args, argTypes := ts }) (hg : ev t f = .fn g cap)
    (h : callEvalM E H ob base g (args.toList.map (ev t) ++ cap) k = some r) (B : Base) (nt : Nat) (a : Act) (w : World) (φ : Phi) (M : Mem) (Q : Exit → Act → World → Prop)
    (hd : dstOk nt o.dst = true) (hev : ∀ x ∈ o.op.operands, VR E φ M (ev t x) (a.eval x)) (hfr : ∀ n, base ≤ n → ob n = none) (hB : B.m ≤ base) (hrel : Rel E B nt t ob a w φ M) :
    o.upon E.P a (fun a' w' => ∃ ef, k ef = some r ∧ base ≤ ef.nx ∧ (∀ n, ef.nx ≤ n → setAll ob ef.wr n = none) ∧ ∃ φ' M', Rel E B nt (putDst t o.dst ef.v) (setAll ob ef.wr) a' w' φ' M') Q ((execOp a.eval o).run E.P w) := by
  cases hs : shareArgs E ob g 0 (args.toList.map (ev t) ++ cap) with
  | none => unfold callEvalM at h; rw [hs] at h; cases h
  | some args' =>
    have h1 := ok_callM' hE hm ho hg hs rfl h B nt a w φ M Q hd hev (fun _ _ => rfl) hfr hB hrel
    refine Oper.upon_mono' h1 fun a' w' ⟨ef, e1, e2, e3, e4, e5⟩ => ⟨ef, e1, e2, fun n hn => ?_, e5⟩
    by_cases hmem : n ∈ ef.wr.map (·.1)
    · exfalso
      obtain ⟨p, hp, rfl⟩ := List.mem_map.1 hmem
      rcases e3 p hp with h2 | h2
      · obtain ⟨x, hx⟩ := e4 _ h2
        rw [hfr _ (by omega)] at hx; cases hx
      · omega
    · rw [setAll_not _ _ hmem]; exact hfr n (by omega)
end

theorem seq_soundK {ops : Array Oper} {nt : Nat} {B : Base} {Q : Exit → Act → World → Prop} {c c' : Nat → TV S} {ob ob' : Nat → Option (Obj S)} {b b' : Nat} {l : List Oper} {es : List (Eff S)} (htr : Trace E ops nt c ob b l es c' ob' b') (m : Nat) :
    ∀ (k : Nat) (a : Act) (w : World) (φ : Phi) (M : Mem), (∀ i, i < l.length → l[i]? = ops[k + i]?) → B.m ≤ b → (∀ n, b ≤ n → ob n = none) → Rel E B nt c ob a w φ M →
      (∀ a' w' φ' M', Rel E B nt c' ob' a' w' φ' M' → b ≤ b' → (∀ n, b' ≤ n → ob' n = none) → wpOps E.P ops Q (List.range' (k + l.length) m) a' w') → wpOps E.P ops Q (List.range' k (l.length + m)) a w := by
  induction htr with
  | nil => intro k a w φ M _ _ h0 hrel hQ; simpa using hQ _ _ _ _ hrel (Nat.le_refl _) h0
  | @run c c' t ob ob' b b' o l e es hd hw ht he h ih =>
    intro k a w φ M hl hB h0 hrel hQ
    have ho : ops[k]? = some o := by have := hl 0 (by simp); simpa using this.symm
    rw [List.length_cons, show l.length + 1 + m = (l.length + m) + 1 by omega]
    simp only [List.range'_succ, wpOps, ho]
    rw [wanted_model hrel hw]
    simp only [if_true]
    left
    unfold Oper.wp
    refine Oper.wp_mono (o := o) (a := a) (w := w) (K := fun a' w' => ∃ φ' M', Rel E B nt (putDst c o.dst e.v) (setAll ob e.wr) a' w' φ' M') ?_ ?_
    · rintro a' w' ⟨φ', M', hrel'⟩
      refine ih (k + 1) a' w' φ' M' (fun i hi => by have := hl (i + 1) (by simpa using hi); simpa [Nat.add_assoc, Nat.add_comm 1] using this) (Nat.le_trans hB he.nx) (he.fresh h0) hrel' fun a'' w'' φ'' M'' h1 h2 h3 => ?_
      rw [show k + 1 + l.length = k + (l.length + 1) by omega]
      exact hQ _ _ _ _ h1 (Nat.le_trans he.nx h2) h3
    · exact he.run B nt c ob a w φ M Q hd (fun x _ => by
        have := hrel.ev x
        cases x with
        | tmp i =>
          rcases ht i with e | e
          · show VR E φ M (t i) _; rw [e]; exact this
          · show VR E φ M (t i) _; rw [e]; exact .dead _
        | const v => exact this
        | func f => exact this
        | global g => exact this) (fun _ _ => rfl) (fun n h1 _ => h0 n h1) hB hrel
  | @skip c c' ob ob' b b' o l es hd hw h ih =>
    intro k a w φ M hl hB h0 hrel hQ
    have ho : ops[k]? = some o := by have := hl 0 (by simp); simpa using this.symm
    rw [List.length_cons, show l.length + 1 + m = (l.length + m) + 1 by omega]
    simp only [List.range'_succ, wpOps, ho]
    rw [wanted_model hrel hw]
    simp only [Bool.false_eq_true, if_false]
    refine ih (k + 1) _ w φ M (fun i hi => by have := hl (i + 1) (by simpa using hi); simpa [Nat.add_assoc, Nat.add_comm 1] using this) hB h0 (hrel.skip hd) fun a'' w'' φ'' M'' h1 h2 h3 => ?_
    rw [show k + 1 + l.length = k + (l.length + 1) by omega]
    exact hQ _ _ _ _ h1 h2 h3
theorem multiCall_spec {H : Hint S} {t : Nat → TV S} {o : Oper} {g : FuncId} {as : List (TV S)} (h : multiCall H t o = some (g, as)) : ∃ f args ts cap, o.op = .call { callee := .value f, args, argTypes := ts } ∧ ev t f = .fn g cap ∧ as = args.toList.map (ev t) ++ cap := by
  unfold multiCall at h
  split at h
  · rename_i f args ts ho
    split at h
    · rename_i g' cap hg
      cases hm : H.multi g' with
      | true => rw [hm] at h; cases h; exact ⟨f, args, ts, cap, ho, hg, rfl⟩
      | false => rw [hm] at h; cases h
    · cases h
  · cases h
theorem runM_wp (hE : EnvOk E) (hf : CallfOK E) {H : Hint S} (hm : CallmOK E H) {nt : Nat} {ops : Array Oper} {R : Type} [Subsingleton R] : ∀ (n : Nat) (l : List Oper) (st : St S) (kp : Nat) (k : St S → Option R) (r : R), runM E H nt ops n l st k = some r → (∀ i, l[i]? = ops[kp + i]?) →
    ∀ (B : Base) (a : Act) (w : World) (φ : Phi) (M : Mem) (Q : Exit → Act → World → Prop), B.m ≤ st.next → (∀ n, st.next ≤ n → st.o n = none) → Rel E B nt st.t st.o a w φ M → (∀ st' a' w', k st' = some r → Inv E B nt st' a' w' → Q .normal a' w') → wpOps E.P ops Q (List.range' kp l.length) a w := by
  intro n
  induction n with
  | zero => intro l st kp k r h; simp [runM] at h
  | succ n ih =>
    intro l st kp k r h hl B a w φ M Q hB h0 hrel hQ
    cases l with
    | nil =>
      simp only [runM] at h
      exact hQ st a w h ⟨φ, M, hrel, hB, h0⟩
    | cons o rest =>
      have ho : ops[kp]? = some o := by have := hl 0; simpa using this.symm
      have hl' : ∀ i, rest[i]? = ops[kp + 1 + i]? := fun i => by have := hl (i + 1); simpa [Nat.add_assoc, Nat.add_comm 1] using this
      simp only [runM] at h
      split at h
      · rename_i hgd
        have hw : wantedT ops st.t o = some true := by unfold wantedT; rw [hgd]
        split at h
        rotate_left
        · cases h
        rename_i hd
        simp only [List.length_cons, List.range'_succ, wpOps, ho]
        rw [wanted_model hrel hw]
        simp only [if_true]
        left
        unfold Oper.wp
        split at h
        · rename_i g as hmc
          obtain ⟨f, args, ts, cap, hop, hg, rfl⟩ := multiCall_spec hmc
          refine Oper.wp_mono (o := o) (a := a) (w := w) (K := fun a' w' => ∃ ef, runM E H nt ops n rest (st.after o ef) k = some r ∧ st.next ≤ ef.nx ∧ (∀ n, ef.nx ≤ n → setAll st.o ef.wr n = none) ∧ ∃ φ' M', Rel E B nt (putDst st.t o.dst ef.v) (setAll st.o ef.wr) a' w' φ' M') ?_ ?_
          · rintro a' w' ⟨ef, hk, h1, h2, φ', M', hrel'⟩
            exact ih rest (st.after o ef) (kp + 1) k r hk hl' B a' w' φ' M' Q (Nat.le_trans hB h1) h2 hrel' hQ
          · exact ok_callM hE hm hop hg h B nt a w φ M Q hd (fun x _ => hrel.ev x) h0 hB hrel
        · rw [opEvalF_eq] at h
          obtain ⟨e, hk, hok⟩ := op_sound hE hf h
          refine Oper.wp_mono (o := o) (a := a) (w := w) (K := fun a' w' => ∃ φ' M', Rel E B nt (putDst st.t o.dst e.v) (setAll st.o e.wr) a' w' φ' M') ?_ ?_
          · rintro a' w' ⟨φ', M', hrel'⟩
            exact ih rest (st.after o e) (kp + 1) k r hk hl' B a' w' φ' M' Q (Nat.le_trans hB hok.nx) (hok.fresh h0) hrel' hQ
          · exact hok.run B nt st.t st.o a w φ M Q hd (fun x _ => hrel.ev x) (fun _ _ => rfl) (fun n h1 _ => h0 n h1) hB hrel
      · rename_i j w0 hgd
        split at h
        · cases h
        rename_i d hdj
        split at h
        · cases h
        rename_i g p rest' hfp
        obtain ⟨hlist, _⟩ := findPick_spec hfp
        obtain ⟨es, c', st', nf, htr, hk, hst, hft⟩ := runC_trace hE hf _ _ _ _ _ _ _ _ st.t h (fun _ => .inl rfl)
        have hlen : (o :: rest).length = (g ++ [p]).length + rest'.length := by rw [hlist]; simp only [List.length_append, List.length_cons, List.length_nil]; omega
        have hgl : ∀ i, (g ++ p :: rest')[i]? = ops[kp + i]? := fun i => by rw [← hlist]; exact hl i
        rw [hlen]
        refine seq_soundK htr rest'.length kp a w φ M (fun i hi => ?_) hB h0 hrel fun a' w' φ' M' hr' hb' hf' => ?_
        · rw [← hgl i, show g ++ p :: rest' = (g ++ [p]) ++ rest' by simp, List.getElem?_append_left hi]
        · refine ih rest' st' (kp + (g ++ [p]).length) k r hk (fun i => ?_) B a' w' φ' M' Q (Nat.le_trans hB hb') hf' (hr'.weaken hst) hQ
          rw [Nat.add_assoc, ← hgl, show g ++ p :: rest' = (g ++ [p]) ++ rest' by simp, List.getElem?_append_right (by omega), Nat.add_sub_cancel_left]
end TE
