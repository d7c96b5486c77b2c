/- TE: every operation. -/
import Derived.Test.YtkhkbikglgpkoaaGreatTEM
import Derived.Test.YtkhkbikglgpkoaaGreatTEY
import Derived.Test.YtkhkbikglgpkoaaGreatTER2
import Derived.Laws.BytesString
namespace TE
open Go
variable {S : Sig} {E : Env S}

theorem args_one {args : Array Operand} {t : Nat → TV S} {x : TV S} (h : args.toList.map (ev t) = [x]) : ∃ y, args.toList = [y] ∧ ev t y = x := by
  cases hl : args.toList with
  | nil => rw [hl] at h; cases h
  | cons y r =>
    rw [hl] at h
    cases r with
    | nil => simp at h; exact ⟨y, rfl, h⟩
    | cons z r => simp at h
theorem args_two {args : Array Operand} {t : Nat → TV S} {x y : TV S} (h : args.toList.map (ev t) = [x, y]) : ∃ p q, args.toList = [p, q] ∧ ev t p = x ∧ ev t q = y := by
  cases hl : args.toList with
  | nil => rw [hl] at h; cases h
  | cons p r =>
    rw [hl] at h
    cases r with
    | nil => simp at h
    | cons q r =>
      cases r with
      | nil => simp at h; exact ⟨p, q, rfl, h.1, h.2⟩
      | cons z r => simp at h
theorem args_cons {args : Array Operand} {t : Nat → TV S} {x : TV S} {r : List (TV S)} (h : args.toList.map (ev t) = x :: r) : ∃ p q, args.toList = p :: q ∧ ev t p = x ∧ q.map (ev t) = r := by
  cases hl : args.toList with
  | nil => rw [hl] at h; cases h
  | cons p q => rw [hl] at h; simp at h; exact ⟨p, q, rfl, h.1, h.2⟩

theorem bytesL_spec {c : S.K} : ∀ {xs : List (S.El c)} {l : List UInt8}, bytesL E c xs = some l → ∃ ns : List Int, ns.length = xs.length ∧ (∀ (i : Nat) (x : S.El c), xs[i]? = some x → ∃ n, ns[i]? = some n ∧ E.enc c x = [.int .u8 n]) ∧ l = ns.map fun n => UInt8.ofNat n.toNat
  | [], l, h => by
    simp only [bytesL, Option.some.injEq] at h
    subst h
    exact ⟨[], rfl, fun i x hx => by simp at hx, rfl⟩
  | x :: r, l, h => by
    unfold bytesL at h
    split at h
    · rename_i n hn
      split at h
      · rename_i l' hl
        cases h
        obtain ⟨ns, h1, h2, h3⟩ := bytesL_spec hl
        refine ⟨n :: ns, by simp [h1], fun i y hy => ?_, by rw [h3]; rfl⟩
        cases i with
        | zero => simp only [List.getElem?_cons_zero, Option.some.injEq] at hy; subst hy; exact ⟨n, rfl, hn⟩
        | succ i => exact h2 i y (by simpa using hy)
      · cases h
    · cases h
theorem foldl_push (ns : List Int) : ∀ (b : ByteArray), ns.foldl (fun r n => r.push (UInt8.ofNat n.toNat)) b = ⟨b.data ++ (ns.map fun n => UInt8.ofNat n.toNat).toArray⟩ := by
  induction ns with
  | nil => intro b; simp
  | cons n r ih =>
    intro b
    rw [List.foldl_cons, ih]
    simp [ByteArray.push]
theorem ok_bytes {o : Oper} {t : Nat → TV S} {ob : Nat → Option (Obj S)} {base : Nat} {s d : TypeId} {x : Operand} {l : List UInt8} {nm : Nat} (ho : o.op = .convert s d x) (h : bytesEval E ob s d (ev t x) = some (l, nm)) : OpOK E o t ob base ⟨.str l, [nm], [], base⟩ := by
  unfold bytesEval at h
  split at h
  rotate_left
  · cases h
  rename_i e nm' hs hd hx
  split at h
  rotate_left
  · cases h
  rename_i c xs m he hob
  split at h
  rotate_left
  · cases h
  rename_i hsz
  split at h
  rotate_left
  · cases h
  rename_i l' hl
  simp only [Option.some.injEq, Prod.mk.injEq] at h
  obtain ⟨rfl, rfl⟩ := h
  refine OpOK.value fun B nt t' ob' a w φ M hv hrd hm => ?_
  have h1 := hv x (by rw [ho]; simp [Op.operands])
  obtain ⟨dst, op', ty, pos, after, guard⟩ := o
  subst ho
  rw [hx] at h1
  obtain ⟨g, hg, ad, cap, e1, h3, h31, h4⟩ := h1.slw_inv
  have hob' : ob' nm' = some (.row c xs m) := by rw [hrd nm' (by simp)]; exact hob
  obtain ⟨g', hg', hL, hs', _, hrow⟩ := hm.objs nm' _ hob'
  rw [hg] at hg'; cases hg'
  obtain ⟨ns, n1, n2, n3⟩ := bytesL_spec hl
  have hcell : ∀ (j : Nat) (v : Value), (ns.map (Value.int .u8))[j]? = some v → w.cell? (at_ g.b (0 + j)) = some v := by
    intro j v hj
    rw [List.getElem?_map] at hj
    obtain ⟨n, hn, rfl⟩ := Option.map_eq_some_iff.1 hj
    obtain ⟨y, hy⟩ : ∃ y, xs[j]? = some y := ⟨_, List.getElem?_eq_getElem (by rw [← n1]; exact (List.getElem?_eq_some_iff.1 hn).1)⟩
    obtain ⟨n', hn', henc⟩ := n2 j y hy
    rw [hn] at hn'; cases hn'
    have hb : ∃ v, w.cell? (at_ g.b (j * g.s + 0)) = some v ∧ CR E M (.int .u8 n) v := by
      have hy0 : (E.enc c y)[0]? = some (.int .u8 n) := by rw [henc]; rfl
      cases m with
      | own => exact hrow.2 j y 0 _ hy hy0
      | app => obtain ⟨v, hv, hc⟩ := hrow.2.1 j y 0 _ hy hy0; exact ⟨v, hm.mval _ _ _ hv, hc⟩
      | ro => obtain ⟨v, hv, hc⟩ := hrow j y 0 _ hy hy0; exact ⟨v, hm.mval _ _ _ hv, hc⟩
    obtain ⟨v, hv, hc⟩ := hb
    have hgs : g.s = 1 := by rw [hs', hsz]
    rw [hgs] at hv
    rw [show 0 + j = j * 1 + 0 by omega, hv, (VR.pure (φ := φ) hc).int]
  refine ⟨.string ⟨l'.toArray⟩, run_value ?_, .pure (.str _)⟩
  rw [e1]
  rw [Go.run_convert_bytes_string w s d e _ _ _ hs he hd]
  have hlen : g.L = (ns.map (Value.int .u8)).length := by rw [List.length_map, n1, hL]
  rcases h4 with h4 | ⟨h4, _⟩
  · have hz : g.L = 0 := by omega
    have hns : ns = [] := List.length_eq_zero_iff.1 (by rw [List.length_map] at hlen; omega)
    have hl0 : l' = [] := by rw [n3, hns]; rfl
    cases ad with
    | none => rw [hl0]; rfl
    | some ad =>
      rw [hz, Go.run_bytesToString w ad 0 cap [] rfl, hl0]; rfl
  · rw [h4, Nat.zero_mul, Go.run_bytesToString w _ _ cap ns (run_loadCells g.b 0 w _ _ hlen hcell), foldl_push, n3]
    simp
theorem op_sound (hE : EnvOk E) (hf : CallfOK E) {R : Type} {H : Hint S} {o : Oper} {t : Nat → TV S} {ob : Nat → Option (Obj S)} {base : Nat} {k : Eff S → Option R} {r : R} (h : opEval E H o t ob base k = some r) :
    ∃ e, k e = some r ∧ OpOK E o t ob base e := by
  unfold opEval at h
  simp only at h
  split at h
  · rename_i x ho; exact ⟨_, h, ok_move (.inl ho)⟩
  · rename_i x ho; exact ⟨_, h, ok_move (.inr ho)⟩
  · rename_i c x y ho
    split at h
    · rename_i q hc
      split at h
      · rename_i p s hx hy; exact ⟨_, h, ok_pick ho hc hx hy⟩
      · split at h
        · rename_i s hs; exact ⟨_, h, ok_pick' ho hc hs⟩
        · cases h
    · cases h
  · rename_i e ho
    split at h
    · rename_i z hz; exact ⟨_, h, ok_alloc hE ho hz⟩
    · cases h
  · rename_i e v ho
    split at h
    · rename_i hal; exact ⟨_, h, ok_box hE ho hal⟩
    · cases h
  · rename_i ty ps ho
    split at h
    · rename_i z pl hz hpl
      split at h
      · rename_i hal
        split at h
        · rename_i cs hcs
          refine ⟨_, h, ok_build ho hz hpl hcs fun p hp c hc => ?_⟩
          have := List.all_eq_true.1 hal p hp
          exact List.all_eq_true.1 this c hc
        · cases h
      · cases h
    · cases h
  · rename_i ty a ho
    split at h
    · rename_i ag n nm i k' ht hx
      split at h
      · rename_i cs hob
        split at h
        · rename_i hi
          split at h
          · split at h
            · rename_i v hv
              refine ⟨_, h, ok_load ho ht hv fun B ob' w φ M u hag hm hu => ?_⟩
              rw [hx] at hu
              exact behind_box hm (by rw [hag nm (by simp)]; exact hob) hi hu
            · cases h
          · rename_i hagg
            obtain rfl : ag = false := by simpa using hagg
            obtain ⟨v, hv, h⟩ := cellK_some h
            refine ⟨_, h, ok_load ho ht (show takeCells false n k' cs = some v from hv) fun B ob' w φ M u hag hm hu => ?_⟩
            rw [hx] at hu
            exact behind_box hm (by rw [hag nm (by simp)]; exact hob) hi hu
        · cases h
      · rename_i c xs m hob
        split at h
        · rename_i z hz
          split at h
          · rename_i v hv
            refine ⟨_, h, ok_load ho ht hv fun B ob' w φ M u hag hm hu => ?_⟩
            rw [hx] at hu
            exact behind_row hm (by rw [hag nm (by simp)]; exact hob) hz hu
          · cases h
        · cases h
      · rename_i c d hob
        exact ok_openEval hE ho ht hx hob h
      · rename_i s cs hob
        split at h
        · rename_i v hv
          refine ⟨_, h, ok_load ho ht hv fun B ob' w φ M u hag hm hu => ?_⟩
          rw [hx] at hu
          exact behind_raw hm (by rw [hag nm (by simp)]; exact hob) hu
        · cases h
      · cases h
    · rename_i ag n c x k' ht hx
      split at h
      · rename_i v hv
        refine ⟨_, h, ok_load ho ht hv fun B ob' w φ M u hag hm hu => ?_⟩
        rw [hx] at hu
        exact behind_iptr hm hu
      · cases h
    · cases h
  · rename_i ty a v ho
    split at h
    · rename_i ag n nm i k' ht hx
      split at h
      · rename_i hc
        split at h
        · rename_i old hob
          split at h
          · rename_i hk
            obtain ⟨rfl, hk⟩ := hk
            exact ⟨_, h, ok_store_box hE ho ht hx hob hc.1 hc.2 hk⟩
          · cases h
        · rename_i c xs hob
          split at h
          · rename_i z hz
            split at h
            · rename_i cs' hcs
              split at h
              · rename_i hk
                split at h
                · rename_i z' hz'
                  exact ⟨_, h, ok_store_row hE ho ht hx hob hz hcs hz' (by have := hk.2; intro hc2; rw [List.contains_iff_mem.2 hc2] at this; cases this) hc.1 hc.2 hk.1⟩
                · cases h
              · cases h
            · cases h
          · cases h
        · rename_i c d hob
          split at h
          · rename_i hk
            obtain ⟨rfl, hk⟩ := hk
            exact ok_closeEval hE ho ht hx hob hc.1 hc.2 h
          · cases h
        · rename_i s old hob
          split at h
          · rename_i hk
            exact ⟨_, h, ok_store_raw hE ho ht hx hob hc.1 hc.2 hk.1 hk.2⟩
          · cases h
        · cases h
      · cases h
    · cases h
  · rename_i x ho
    split at h
    · rename_i nm i j hx
      have := ok_nilCheck (E := E) (t := t) (ob := ob) (base := base) ho (.inl ⟨_, _, _, hx⟩)
      rw [hx] at this
      exact ⟨_, h, this⟩
    · rename_i c y j hx
      have := ok_nilCheck (E := E) (t := t) (ob := ob) (base := base) ho (.inr ⟨_, _, _, hx⟩)
      rw [hx] at this
      exact ⟨_, h, this⟩
    · cases h
  · rename_i op xt x y yt ho
    exact ok_binOp ho h
  · rename_i op xt x ho
    split at h
    · rename_i v hv; exact ⟨_, h, ok_unOp ho hv⟩
    · cases h
  · rename_i a b x ho
    split at h
    · rename_i v hv; exact ⟨_, h, ok_convert ho hv⟩
    · split at h
      · rename_i l nm hb; exact ⟨_, h, ok_bytes ho hb⟩
      · cases h
  · rename_i st x f ho
    split at h
    · rename_i off ft nm i j hf' hx
      exact ⟨_, h, ok_fieldAddr ho hf' (.inl ⟨_, _, _, hx, rfl⟩)⟩
    · rename_i off ft c y j hf' hx
      exact ⟨_, h, ok_fieldAddr ho hf' (.inr ⟨_, _, _, hx, rfl⟩)⟩
    · cases h
  · rename_i st x f ho
    split at h
    · rename_i off ft cs hf' hx
      split at h
      · rename_i ag n ht
        split at h
        · rename_i v hv; exact ⟨_, h, ok_field ho hf' hx ht hv⟩
        · cases h
      · cases h
    · cases h
  · rename_i ty x i ho
    split at h
    · rename_i e q n hu hi
      split at h
      · rename_i hso
        split at h
        · rename_i nm hx
          split at h
          · rename_i c xs m hob
            split at h
            · rename_i hb
              obtain ⟨c', xs', m', inf, h1, h2, h3⟩ := sliceOf_row hE hso (.inl hx)
              rw [hob] at h1; injection h1 with h1; injection h1 with e1 e2 e3
              subst e1
              have := ok_indexAddr_obj (t := t) (ob := ob) (base := base) (off := 0) (len := xs.length) (rd := [nm]) hE ho hu h2 h3 hi hb.1 hb.2 (fun B ob' w φ M u hag hm hu' => by
                rw [hx] at hu'
                obtain ⟨g, hg, hs⟩ := hu'.slw_inv
                obtain ⟨g', hg', hL, hs', _⟩ := hm.objs nm _ (by rw [hag nm (by simp)]; exact hob)
                rw [hg] at hg'; cases hg'
                exact ⟨g, hg, hs', by rw [← hL]; exact hs⟩)
              rw [Nat.zero_add] at this
              exact ⟨_, h, this⟩
            · cases h
          · cases h
        · rename_i nm off len hx
          split at h
          · rename_i hb
            obtain ⟨c', xs', m', inf, h1, h2, h3⟩ := sliceOf_row hE hso (.inr ⟨_, _, hx⟩)
            have := ok_indexAddr_obj (t := t) (ob := ob) (base := base) (off := off) (len := len) (rd := [nm]) hE ho hu h2 h3 hi hb.1 hb.2 (fun B ob' w φ M u hag hm hu' => by
              rw [hx] at hu'
              obtain ⟨g, hg, hs⟩ := hu'.sl_inv
              obtain ⟨g', hg', hL, hs', _⟩ := hm.objs nm _ (by rw [hag nm (by simp)]; exact h1)
              rw [hg] at hg'; cases hg'
              exact ⟨g, hg, hs', hs⟩)
            exact ⟨_, h, this⟩
          · cases h
        · rename_i c xs hx
          simp only [Option.bind_eq_some_iff] at h
          obtain ⟨z, hz, h⟩ := h
          rw [hx] at hso
          obtain ⟨inf, h2, h3⟩ := sliceOf_tree hE hso
          exact ⟨_, h, ok_indexAddr_tree ho hu h2 h3 hi hx hz⟩
        · cases h
      · exact ok_indexAddr_box hE ho hu hi h
    · rename_i L e q n hu hi
      split at h
      · rename_i inf nm i0 j0 hinf hx
        split at h
        · rename_i hb; exact ⟨_, h, ok_indexArr ho hu hinf hi hb.1 hb.2 (.inl ⟨_, _, _, hx, rfl⟩)⟩
        · cases h
      · rename_i inf c z j0 hinf hx
        split at h
        · rename_i hb; exact ⟨_, h, ok_indexArr ho hu hinf hi hb.1 hb.2 (.inr ⟨_, _, _, hx, rfl⟩)⟩
        · cases h
      · cases h
    · cases h
  · rename_i ty x i ho
    split at h
    · rename_i q n hi
      unfold idxEval at h
      split at h
      · rename_i s hu hx
        simp only [Option.bind_eq_some_iff] at h
        obtain ⟨z, hz, h⟩ := h
        exact ⟨_, h, ok_index_str ho hu hi hx hz⟩
      · rename_i L e cs hu hx
        split at h
        · rename_i hL
          split at h
          · rename_i l hl
            simp only [Option.bind_eq_some_iff] at h
            obtain ⟨z, hz, h⟩ := h
            obtain ⟨h0, _, _, hz'⟩ := at?_some hz
            exact ⟨_, h, ok_index_arr ho hu hL.2 hL.1 hi hx h0 (by rw [allStr_spec cs l hl, hz']; rfl)⟩
          · split at h
            · rename_i l hl
              simp only [Option.bind_eq_some_iff] at h
              obtain ⟨z, hz, h⟩ := h
              obtain ⟨h0, _, _, hz'⟩ := at?_some hz
              exact ⟨_, h, ok_index_arr ho hu hL.2 hL.1 hi hx h0 (by rw [allInt_spec .i64 cs l hl, hz']; rfl)⟩
            · cases h
        · cases h
      · cases h
    · cases h
  · rename_i ty x lo hi mx ho
    split at h
    · rename_i hu
      split at h
      · rename_i hs
        obtain ⟨tv, rd, h1, h2⟩ := ok_slice hE ho hu (.inl ⟨rfl, hs⟩) h
        exact ⟨_, h1, h2⟩
      · cases h
    · rename_i e hu
      split at h
      · rename_i hs
        obtain ⟨tv, rd, h1, h2⟩ := ok_slice hE ho hu (.inr ⟨e, rfl, hs⟩) h
        exact ⟨_, h1, h2⟩
      · exact ok_rawSlice (mx := none) hE ho hu h
    · rename_i m e hu
      exact ok_rawSlice (mx := some m) hE ho hu h
    · cases h
  · rename_i x i ho
    split at h
    · rename_i vs hx
      split at h
      · rename_i v hv; exact ⟨_, h, ok_extract ho hx hv⟩
      · cases h
    · cases h
  · rename_i f first cap ho
    split at h
    · rename_i hf'; exact ⟨_, h, ok_makeFunc ho hf'⟩
    · split at h
      · rename_i hf'; exact ⟨_, h, ok_makeMv ho hf'⟩
      · cases h
  · rename_i ty n ps ho
    split at h
    · rename_i e hu
      cases hraw : E.raw e with
      | true => rw [hraw] at h; exact ok_rawBuild hE ho hu h
      | false =>
      rw [hraw] at h
      simp only [cond_false] at h
      split at h
      · rename_i c hc
        split at h
        · exact ok_buildBox hE ho hu h
        split at h
        · rename_i hps
          split at h
          · rename_i xs hxs
            exact ⟨_, h, ok_buildSlice hE ho hu hc hps.1 hps.2 hxs⟩
          · cases h
        · cases h
      · exact ok_buildBox hE ho hu h
    · cases h
  · rename_i ty l cp ho
    split at h
    · rename_i e n m hu hl hm
      cases hraw : E.raw e with
      | true => rw [hraw] at h; exact ok_rawMake hE ho hu hl hm h
      | false =>
      rw [hraw] at h
      simp only [cond_false] at h
      split at h
      · rename_i c z hc hz
        split at h
        · rename_i x hx
          split at h
          · rename_i hb
            exact ⟨_, h, ok_makeSlice hE ho hu hl hm hc hz hx hb.1.1 hb.1.2.1 hb.1.2.2 hb.2⟩
          · cases h
        · cases h
      · cases h
    · cases h
  · rename_i b args ts ho
    split at h
    · rename_i nm hx
      split at h
      · rename_i kt et ag sh vag vc L ex cl hu hob
        obtain ⟨y, hy, e⟩ := args_one hx
        exact ⟨_, h, ok_mapLen ho hy e hu hob⟩
      · cases h
    · rename_i m x hx
      split at h
      · rename_i kt et hu
        obtain ⟨p, q, hpq, rfl, rfl⟩ := args_two hx
        exact ok_delete hE ho hpq hu h
      · cases h
    · rename_i x hx
      split at h
      · rename_i e hu
        obtain ⟨y, hy, rfl⟩ := args_one hx
        cases hraw : E.raw e with
        | true => rw [hraw] at h; exact ok_rawClear hE ho hy hu h
        | false => rw [hraw] at h; exact ok_clear hE ho hy hu h
      · cases h
    · rename_i x hnm hx
      split at h
      · rename_i n hn
        obtain ⟨y, hy, rfl⟩ := args_one hx
        exact ⟨_, h, ok_len ho hy hn⟩
      · cases h
    · rename_i x y hx
      split at h
      · rename_i e e' h0 h1
        obtain ⟨p, q, hpq, rfl, rfl⟩ := args_two hx
        cases hraw : E.raw e with
        | true => rw [hraw] at h; exact ok_rawAppend hE ho hpq h0 h1 h
        | false =>
        rw [hraw] at h
        simp only [cond_false] at h
        split at h
        · rename_i c hc
          split at h
          · rename_i bn cs hbo
            exact ok_appendDeep hE ho hpq h0 h1 hc hbo h
          · exact ok_append hE ho hpq h0 h1 hc h
        · cases h
      · cases h
    · rename_i x r' hx
      split at h
      · rename_i v hv
        obtain ⟨p, q, hpq, rfl, rfl⟩ := args_cons hx
        exact ⟨_, h, ok_minMax (lt := true) rfl ho hpq hv⟩
      · cases h
    · rename_i x r' hx
      split at h
      · rename_i v hv
        obtain ⟨p, q, hpq, rfl, rfl⟩ := args_cons hx
        exact ⟨_, h, ok_minMax (lt := false) rfl ho hpq hv⟩
      · cases h
    · cases h
  · rename_i f args ts ho
    split at h
    · rename_i g cap hg
      exact ok_call hE hf ho (.inl ⟨_, hg, rfl⟩) h
    · rename_i g first hg
      exact ok_call hE hf ho (.inr ⟨_, hg, rfl⟩) h
    · cases h
  · unfold mapEval at h
    split at h
    · rename_i ty ho
      split at h
      · rename_i kt et hu
        split at h
        · rename_i ag sh vc vag n h1 h2 h3
          split at h
          · exact ⟨_, h, ok_makeMap hE ho hu⟩
          · cases h
        · cases h
      · cases h
    · rename_i ty m x ok ho
      split at h
      · rename_i kt et hu; exact ok_lookup hE ho hu h
      · cases h
    · rename_i ty m x y ho
      split at h
      · rename_i kt et hu; exact ok_update hE (.inl ho) hu h
      · cases h
    · rename_i ty m x y ho
      split at h
      · rename_i kt et hu; exact ok_update hE (.inr ho) hu h
      · cases h
    · rename_i ty m ho
      split at h
      · rename_i kt et nm hu hm
        split at h
        · rename_i hob; exact ⟨_, h, ok_range hE ho hu hm hob⟩
        · cases h
      · cases h
    · rename_i it ho
      split at h
      · rename_i nm hi
        split at h
        · rename_i mp since seen stepped hob
          split at h
          · rename_i stamp ag sh vag vc L cl hl hmp
            split at h
            · rename_i hcl
              split at h
              · rename_i e hf
                split at h
                · rename_i v hv; exact ⟨_, h, ok_entry ho hi hob hl hmp hcl hf hv⟩
                · cases h
              · cases h
            · cases h
          · cases h
        · cases h
      · cases h
    · rename_i it ho
      split at h
      · rename_i nm hi
        split at h
        · rename_i mp since seen stepped hob
          split at h
          · rename_i ag sh vag vc L cl hmp; exact ok_next hE ho hi hob hmp h
          · cases h
        · cases h
      · cases h
    · cases h
end TE
