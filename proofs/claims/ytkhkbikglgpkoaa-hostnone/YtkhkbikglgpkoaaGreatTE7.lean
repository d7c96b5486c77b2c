/- TE: places in slices, pieces of slices and strings, lengths, literals of structs. -/
import Derived.Test.YtkhkbikglgpkoaaGreatTE6
namespace TE
open Go
variable {S : Sig} {E : Env S}
section
variable {R : Type} {k : Eff S → Option R} {r : R} {t : Nat → TV S} {ob : Nat → Option (Obj S)} {base : Nat} {o : Oper}

theorem row_size (hE : EnvOk E) {e : TypeId} {c : S.K} {i : TypeInfo} (hc : E.code e = some c) (hi : E.P.info? e = some i) : i.size = E.sz c := by
  obtain ⟨i', h1, h2, _⟩ := hE.size e c hc
  rw [hi] at h1; cases h1; exact h2

theorem at?_some {α : Type} {xs : List α} {n : Int} {x : α} (h : at? xs n = some x) : 0 ≤ n ∧ n.toNat < xs.length ∧ n < xs.length ∧ xs[n.toNat]? = some x := by
  unfold at? at h
  split at h
  · cases h
  · rename_i hn
    have h1 := (List.getElem?_eq_some_iff.1 h).1
    exact ⟨by omega, h1, by omega, h⟩

/-- An address of an element of an object's slice. -/
theorem ok_indexAddr_obj {ty e : TypeId} {x y : Operand} {q : IntKind} {n : Int} {nm off len : Nat} {rd : List Nat} {i : TypeInfo} {c : S.K} (hE : EnvOk E) (ho : o.op = .indexAddr ty x y) (hu : E.P.underlying ty = some (.slice e))
    (hi : E.P.info? e = some i) (hc : i.size = E.sz c) (hy : ev t y = .int q n) (h0 : 0 ≤ n) (h1 : n < len)
    (hx : ∀ (B : Base) (ob' : Nat → Option (Obj S)) (w : World) (φ : Phi) (M : Mem) (u : Value), (∀ n ∈ rd, ob' n = ob n) → RelW E B ob' w φ M → VR E φ M (ev t x) u →
      ∃ g, φ nm = some g ∧ g.s = E.sz c ∧ SliceAt g off len u) : OpOK E o t ob base ⟨.ptr nm (off + n.toNat) 0, rd, [], base⟩ := by
  refine OpOK.value fun B nt t' ob' a w φ M hv hrd hm => ?_
  have h2 := hv x (by rw [ho]; simp [Op.operands])
  have h3 := hv y (by rw [ho]; simp [Op.operands])
  obtain ⟨dst, op', ty', pos, after, guard⟩ := o
  subst ho
  rw [hy] at h3
  have e3 := h3.int
  obtain ⟨g, hg, hs, ad, cap, e2, hle, hL, had⟩ := hx B ob' w φ M _ hrd hm h2
  have hcap : cap ≠ 0 := by omega
  obtain ⟨had, _⟩ := had.resolve_left hcap
  subst had
  refine ⟨_, run_value (by rw [e2, e3]; exact run_indexAddr w hu hi h0 h1), ?_⟩
  rw [show off * g.s + n.toNat * i.size = (off + n.toNat) * g.s + 0 by rw [hc, hs, Nat.add_mul]; rfl]
  exact .ptr hg

theorem ok_indexAddr_box0 {ty e : TypeId} {x y : Operand} {q : IntKind} {n : Int} (ho : o.op = .indexAddr ty x y) (hu : E.P.underlying ty = some (.slice e)) (hy : ev t y = .int q n) (h : boxAddr0 E ob base e (ev t x) n k = some r) : ∃ e', k e' = some r ∧ OpOK E o t ob base e' := by
  unfold boxAddr0 at h
  split at h
  · rename_i nm len ag hx ht
    split at h
    · rename_i cs hob
      split at h
      · rename_i hb
        refine ⟨_, h, OpOK.value fun B nt t' ob' a w φ M hv hrd hm => ?_⟩
        have h2 := hv x (by rw [ho]; simp [Op.operands])
        have h3 := hv y (by rw [ho]; simp [Op.operands])
        obtain ⟨dst, op', ty', pos, after, guard⟩ := o
        subst ho
        rw [hy] at h3
        rw [hx] at h2
        have e3 := h3.int
        obtain ⟨i, d, hi, _, hs, _⟩ := tyOf_spec ht
        obtain ⟨g, hg, ad, cap, e2, hle, hL, had⟩ := h2.sl_inv
        have hcap : cap ≠ 0 := by omega
        obtain ⟨had, _⟩ := had.resolve_left hcap
        subst had
        refine ⟨_, run_value (by rw [e2, e3]; exact run_indexAddr w hu hi hb.1 hb.2), ?_⟩
        rw [show 0 * g.s + n.toNat * i.size = 0 * g.s + n.toNat by rw [hs, Nat.mul_one]]
        exact .ptr hg
      · cases h
    · cases h
  · cases h

theorem rawEl_spec {e : TypeId} {s : Nat} {z : List (TV S)} (h : rawEl E e = some (s, z)) : ∃ i zv, E.P.info? e = some i ∧ i.size = s ∧ 1 ≤ s ∧ s ≤ 2 ^ 11 ∧ i.bytes ≤ 2 ^ 11 ∧ i.zero = some zv ∧ zv.cells.size = s ∧ z = zv.cells.toList.map ofVal := by
  unfold rawEl at h
  split at h
  · split at h
    · rename_i i hi
      split at h
      · rename_i zv hz
        split at h
        · rename_i hb
          simp only [Option.some.injEq, Prod.mk.injEq] at h
          obtain ⟨rfl, rfl⟩ := h
          exact ⟨i, zv, hi, rfl, hb.1.1, hb.1.2, hb.2.1, hz, hb.2.2, rfl⟩
        · cases h
      · cases h
    · cases h
  · cases h
theorem ok_rawAddr {ty e : TypeId} {x y : Operand} {q : IntKind} {n : Int} {nm off len : Nat} (ho : o.op = .indexAddr ty x y) (hu : E.P.underlying ty = some (.slice e)) (hx : ev t x = .rs nm off len) (hy : ev t y = .int q n) (h : rawAddr E ob base e nm off len n k = some r) : ∃ e', k e' = some r ∧ OpOK E o t ob base e' := by
  unfold rawAddr at h
  split at h
  · rename_i s z s' cs he hob
    split at h
    · rename_i hb
      obtain ⟨rfl, h0, h1⟩ := hb
      obtain ⟨i, zv, hi, his, _⟩ := rawEl_spec he
      refine ⟨_, h, OpOK.value fun B nt t' ob' a w φ M hv hrd hm => ?_⟩
      have h2 := hv x (by rw [ho]; simp [Op.operands])
      have h3 := hv y (by rw [ho]; simp [Op.operands])
      obtain ⟨dst, op', ty', pos, after, guard⟩ := o
      subst ho
      rw [hy] at h3
      rw [hx] at h2
      have e3 := h3.int
      obtain ⟨g, ad, cap, hg, e2, hle, hL, _, had⟩ := h2.rs_inv
      obtain ⟨had, _⟩ := had.resolve_left (by omega)
      subst had
      have hob' : ob' nm = some (.raw s' cs) := (hrd nm (by simp)).trans hob
      obtain ⟨g', hg', hs, _⟩ := hm.objs nm _ hob'
      rw [hg] at hg'; cases hg'
      refine ⟨_, run_value (by rw [e2, e3]; exact run_indexAddr w hu hi h0 h1), ?_⟩
      rw [show off * g.s + n.toNat * i.size = (off + n.toNat) * g.s + 0 by rw [his, hs, Nat.add_mul]; rfl]
      exact .ptr hg
    · cases h
  · cases h
theorem codeIs_size (hE : EnvOk E) {e : TypeId} {c : S.K} (h : codeIs E e c = true) : ∃ i, E.P.info? e = some i ∧ i.size = E.sz c := by
  unfold codeIs at h
  split at h
  · rename_i d hd
    obtain rfl := of_decide_eq_true h
    obtain ⟨i, h1, h2, _⟩ := hE.size e d hd
    exact ⟨i, h1, h2⟩
  · cases h
theorem ok_indexAddr_box (hE : EnvOk E) {ty e : TypeId} {x y : Operand} {q : IntKind} {n : Int} (ho : o.op = .indexAddr ty x y) (hu : E.P.underlying ty = some (.slice e)) (hy : ev t y = .int q n) (h : boxAddr E ob base e (ev t x) n k = some r) : ∃ e', k e' = some r ∧ OpOK E o t ob base e' := by
  unfold boxAddr at h
  split at h
  · rename_i nm hx
    split at h
    · rename_i c xs hob
      split at h
      · rename_i hc
        split at h
        · rename_i hb
          obtain ⟨i, hi, his⟩ := codeIs_size hE hc
          refine ⟨_, h, ?_⟩
          have := ok_indexAddr_obj (ob := ob) (nm := nm) (off := 0) (len := xs.len) (rd := [nm]) (base := base) hE ho hu hi his hy hb.1 hb.2 fun B ob' w φ M u hag hm hv => by
            rw [hx] at hv
            obtain ⟨g, hg, hsl⟩ := hv.slw_inv
            have hob' : ob' nm = some (.deep c xs) := (hag nm (by simp)).trans hob
            obtain ⟨g', hg', hd⟩ := hm.objs nm _ hob'
            rw [hg] at hg'; cases hg'
            obtain ⟨hL, hs, _⟩ := hd.facts
            exact ⟨g, hg, hs, by rw [← DX.get_len, ← hL]; exact hsl⟩
          simpa using this
        · cases h
      · cases h
    · cases h
  · rename_i nm off len hx
    exact ok_rawAddr ho hu hx hy h
  · exact ok_indexAddr_box0 ho hu hy h

theorem ok_indexAddr_tree {ty e : TypeId} {x y : Operand} {q : IntKind} {n : Int} {i : TypeInfo} {c : S.K} {xs : List (S.El c)} {z : S.El c} (ho : o.op = .indexAddr ty x y) (hu : E.P.underlying ty = some (.slice e))
    (hi : E.P.info? e = some i) (hc : i.size = E.sz c) (hy : ev t y = .int q n) (hx : ev t x = .tree c xs) (hz : at? xs n = some z) : OpOK E o t ob base ⟨.iptr c z 0, [], [], base⟩ := by
  refine OpOK.value fun B nt t' ob' a w φ M hv hrd hm => ?_
  have h2 := hv x (by rw [ho]; simp [Op.operands])
  have h3 := hv y (by rw [ho]; simp [Op.operands])
  obtain ⟨dst, op', ty', pos, after, guard⟩ := o
  subst ho
  rw [hy] at h3
  rw [hx] at h2
  have e3 := h3.int
  obtain ⟨h0, h1, h1', hz'⟩ := at?_some hz
  obtain ⟨ad, cap, b, of, e2, hle, had, hM⟩ := h2.tree_inv
  have hcap : cap ≠ 0 := by omega
  have had := had.resolve_left hcap
  subst had
  refine ⟨_, run_value (by rw [e2, e3]; exact run_indexAddr w hu hi h0 h1'), .iptr_mk b (of + n.toNat * E.sz c) (by rw [hc]; rfl) fun j tv hj => hM n.toNat z j tv hz' hj⟩

theorem ok_index_str {ty : TypeId} {x y : Operand} {q : IntKind} {n : Int} {s : List UInt8} {b : UInt8} (ho : o.op = .index ty x y) (hu : E.P.underlying ty = some .string) (hy : ev t y = .int q n) (hx : ev t x = .str s)
    (hz : at? s n = some b) : OpOK E o t ob base ⟨.int .u8 b.toNat, [], [], base⟩ := by
  refine OpOK.value fun B nt t' ob' a w φ M hv hrd hm => ?_
  have h2 := hv x (by rw [ho]; simp [Op.operands])
  have h3 := hv y (by rw [ho]; simp [Op.operands])
  obtain ⟨dst, op', ty', pos, after, guard⟩ := o
  subst ho
  rw [hy] at h3
  rw [hx] at h2
  have e3 := h3.int
  have e2 := h2.str
  obtain ⟨h0, h1, h1', hz'⟩ := at?_some hz
  refine ⟨.int .u8 b.toNat, run_value ?_, .pure (.int _ _)⟩
  rw [e2, e3]
  unfold Instr.index
  simp only [run_bind, run_asIntOf, run_underlying ty w hu, h0, if_true]
  have : (⟨s.toArray⟩ : ByteArray)[n.toNat]? = some b := by
    have hsz : n.toNat < (⟨s.toArray⟩ : ByteArray).size := by simpa [ByteArray.size] using h1
    rw [getElem?_pos (⟨s.toArray⟩ : ByteArray) n.toNat hsz]
    congr 1
    have := (List.getElem?_eq_some_iff.1 hz').2
    rw [← this]
    rfl
  simp only [this]
  rfl

theorem allStr_spec : ∀ (cs : List (TV S)) (l : List (List UInt8)), allStr cs = some l → ∀ i : Nat, cs[i]? = (l[i]?).map .str
  | [], l, h, i => by simp only [allStr, Option.some.injEq] at h; subst h; simp
  | .str s :: r, l, h, i => by
    simp only [allStr, Option.map_eq_some_iff] at h
    obtain ⟨l', h', rfl⟩ := h
    cases i with
    | zero => simp
    | succ i => simpa using allStr_spec r l' h' i
  | .dead :: _, _, h, _ => by simp [allStr] at h
  | .undef :: _, _, h, _ => by simp [allStr] at h
  | .bool _ :: _, _, h, _ => by simp [allStr] at h
  | .int _ _ :: _, _, h, _ => by simp [allStr] at h
  | .nilp :: _, _, h, _ => by simp [allStr] at h
  | .ptr _ _ _ :: _, _, h, _ => by simp [allStr] at h
  | .iptr _ _ _ :: _, _, h, _ => by simp [allStr] at h
  | .nils :: _, _, h, _ => by simp [allStr] at h
  | .slw _ :: _, _, h, _ => by simp [allStr] at h
  | .sl _ _ _ :: _, _, h, _ => by simp [allStr] at h
  | .rs _ _ _ :: _, _, h, _ => by simp [allStr] at h
  | .tree _ _ :: _, _, h, _ => by simp [allStr] at h
  | .nilm :: _, _, h, _ => by simp [allStr] at h
  | .map _ :: _, _, h, _ => by simp [allStr] at h
  | .nilf :: _, _, h, _ => by simp [allStr] at h
  | .fn _ _ :: _, _, h, _ => by simp [allStr] at h
  | .mv _ _ :: _, _, h, _ => by simp [allStr] at h
  | .nili :: _, _, h, _ => by simp [allStr] at h
  | .iface _ _ :: _, _, h, _ => by simp [allStr] at h
  | .agg _ :: _, _, h, _ => by simp [allStr] at h
  | .tup _ :: _, _, h, _ => by simp [allStr] at h
theorem allInt_spec (kd : IntKind) : ∀ (cs : List (TV S)) (l : List Int), allInt kd cs = some l → ∀ i : Nat, cs[i]? = (l[i]?).map (.int kd ·)
  | [], l, h, i => by simp only [allInt, Option.some.injEq] at h; subst h; simp
  | .int k' n :: r, l, h, i => by
    simp only [allInt] at h
    split at h
    · rename_i hk
      subst hk
      simp only [Option.map_eq_some_iff] at h
      obtain ⟨l', h', rfl⟩ := h
      cases i with
      | zero => simp
      | succ i => simpa using allInt_spec kd r l' h' i
    · cases h
  | .dead :: _, _, h, _ => by simp [allInt] at h
  | .undef :: _, _, h, _ => by simp [allInt] at h
  | .bool _ :: _, _, h, _ => by simp [allInt] at h
  | .str _ :: _, _, h, _ => by simp [allInt] at h
  | .nilp :: _, _, h, _ => by simp [allInt] at h
  | .ptr _ _ _ :: _, _, h, _ => by simp [allInt] at h
  | .iptr _ _ _ :: _, _, h, _ => by simp [allInt] at h
  | .nils :: _, _, h, _ => by simp [allInt] at h
  | .slw _ :: _, _, h, _ => by simp [allInt] at h
  | .sl _ _ _ :: _, _, h, _ => by simp [allInt] at h
  | .rs _ _ _ :: _, _, h, _ => by simp [allInt] at h
  | .tree _ _ :: _, _, h, _ => by simp [allInt] at h
  | .nilm :: _, _, h, _ => by simp [allInt] at h
  | .map _ :: _, _, h, _ => by simp [allInt] at h
  | .nilf :: _, _, h, _ => by simp [allInt] at h
  | .fn _ _ :: _, _, h, _ => by simp [allInt] at h
  | .mv _ _ :: _, _, h, _ => by simp [allInt] at h
  | .nili :: _, _, h, _ => by simp [allInt] at h
  | .iface _ _ :: _, _, h, _ => by simp [allInt] at h
  | .agg _ :: _, _, h, _ => by simp [allInt] at h
  | .tup _ :: _, _, h, _ => by simp [allInt] at h

theorem cellK_some {R : Type} {cs : List (TV S)} {n : Nat} {k : TV S → Option R} {r : R} (h : cellK cs n k = some r) : ∃ v, cs[n]? = some v ∧ k v = some r := by
  unfold cellK at h
  split at h
  · rename_i l hl
    obtain ⟨s, h1, h2⟩ := Option.bind_eq_some_iff.1 h
    exact ⟨_, by rw [allStr_spec cs l hl, h1]; rfl, h2⟩
  · split at h
    · rename_i l hl
      obtain ⟨s, h1, h2⟩ := Option.bind_eq_some_iff.1 h
      exact ⟨_, by rw [allInt_spec .i64 cs l hl, h1]; rfl, h2⟩
    · split at h
      · rename_i v hv
        exact ⟨v, hv, h⟩
      · cases h

theorem ok_index_arr {ty e : TypeId} {L : Nat} {x y : Operand} {q : IntKind} {n : Int} {cs : List (TV S)} {tv : TV S} (ho : o.op = .index ty x y) (hu : E.P.underlying ty = some (.array L e)) (hty : tyOf E.P e = some (false, 1)) (hL : cs.length = L)
    (hy : ev t y = .int q n) (hx : ev t x = .agg cs) (h0 : 0 ≤ n) (hz : cs[n.toNat]? = some tv) : OpOK E o t ob base ⟨tv, [], [], base⟩ := by
  refine OpOK.value fun B nt t' ob' a w φ M hv hrd hm => ?_
  have h2 := hv x (by rw [ho]; simp [Op.operands])
  have h3 := hv y (by rw [ho]; simp [Op.operands])
  obtain ⟨dst, op', ty', pos, after, guard⟩ := o
  subst ho
  rw [hy] at h3
  rw [hx] at h2
  have e3 := h3.int
  obtain ⟨vs, e2, hl, hvs⟩ := h2.agg_inv
  obtain ⟨i, d, g1, g2, g3, _⟩ := tyOf_spec hty
  obtain ⟨v, hrun, hvr⟩ := run_part (E := E) (k := n.toNat * 1) w hty (by simpa [takeCells] using hz) hl hvs
  refine ⟨v, run_value ?_, hvr⟩
  have hlt : n < (L : Int) := by
    have := (List.getElem?_eq_some_iff.1 hz).1
    omega
  rw [e2, e3]
  unfold Instr.index
  simp only [run_bind, run_asIntOf, run_underlying ty w hu, h0, hlt, and_self, if_true, run_sizeOf e w g1, g3]
  exact hrun

theorem run_len {P : Program} {φ : Phi} {M : Mem} {B : Base} {ob' : Nat → Option (Obj S)} {ts : Array TypeId} {ty' : TypeId} {x : TV S} {u : Value} {n : Nat} (w : World) (hn : lenT ((ts[0]?).bind P.underlying) ob x = some n)
    (hrd : ∀ n ∈ rowName x, ob' n = ob n) (hm : RelW E B ob' w φ M) (hu : VR E φ M x u) : (Builtin.len_ ts ty' #[u]).run P w = .ok (.int .i64 n) w := by
  unfold lenT at hn
  have go : ∀ d, (ts[0]?).bind P.underlying = some d → ∃ ty, ts[0]? = some ty ∧ P.underlying ty = some d := by
    intro d hd
    cases h0 : ts[0]? with
    | none => rw [h0] at hd; cases hd
    | some ty => rw [h0] at hd; exact ⟨ty, rfl, hd⟩
  split at hn
  · rename_i s hd
    obtain ⟨ty, h0, h1⟩ := go _ hd
    cases hn
    cases hu.str
    unfold Builtin.len_
    simp only [h0, show (#[Value.string ⟨s.toArray⟩] : Array Value)[0]? = some (Value.string ⟨s.toArray⟩) from rfl, run_bind, run_underlying ty w h1]
    simp [goInt, ByteArray.size]
  · rename_i e hd
    obtain ⟨ty, h0, h1⟩ := go _ hd
    cases hn
    cases hu.nils
    unfold Builtin.len_
    simp only [h0, show (#[Value.slice none 0 0] : Array Value)[0]? = some (Value.slice none 0 0) from rfl, run_bind, run_underlying ty w h1]
    rfl
  · rename_i e c xs hd
    obtain ⟨ty, h0, h1⟩ := go _ hd
    cases hn
    obtain ⟨a, cap, b, of, rfl, _⟩ := hu.tree_inv
    unfold Builtin.len_
    simp only [h0, show (#[Value.slice a xs.length cap] : Array Value)[0]? = some (Value.slice a xs.length cap) from rfl, run_bind, run_underlying ty w h1]
    rfl
  · rename_i e nm hd
    obtain ⟨ty, h0, h1⟩ := go _ hd
    split at hn
    · rename_i c xs m ho
      cases hn
      obtain ⟨g, hg, a, cap, rfl, _⟩ := hu.slw_inv
      obtain ⟨g', hg', hL, _⟩ := hm.objs nm _ (by rw [hrd nm (by simp [rowName])]; exact ho)
      rw [hg] at hg'; cases hg'
      unfold Builtin.len_
      simp only [h0, show (#[Value.slice a g.L cap] : Array Value)[0]? = some (Value.slice a g.L cap) from rfl, run_bind, run_underlying ty w h1]
      rw [hL]; rfl
    · rename_i c dx ho
      cases hn
      obtain ⟨g, hg, a, cap, rfl, _⟩ := hu.slw_inv
      obtain ⟨g', hg', hdr⟩ := hm.objs nm _ (by rw [hrd nm (by simp [rowName])]; exact ho)
      rw [hg] at hg'; cases hg'
      have hL := hdr.facts.1
      rw [DX.get_len] at hL
      unfold Builtin.len_
      simp only [h0, show (#[Value.slice a g.L cap] : Array Value)[0]? = some (Value.slice a g.L cap) from rfl, run_bind, run_underlying ty w h1]
      rw [hL]; rfl
    · cases hn
  · rename_i e nm off len hd
    obtain ⟨ty, h0, h1⟩ := go _ hd
    cases hn
    obtain ⟨g, hg, a, cap, rfl, _⟩ := hu.sl_inv
    unfold Builtin.len_
    simp only [h0, show (#[Value.slice a n cap] : Array Value)[0]? = some (Value.slice a n cap) from rfl, run_bind, run_underlying ty w h1]
    rfl
  · rename_i e nm off len hd
    obtain ⟨ty, h0, h1⟩ := go _ hd
    cases hn
    obtain ⟨g, a, cap, hg, rfl, _⟩ := hu.rs_inv
    unfold Builtin.len_
    simp only [h0, show (#[Value.slice a n cap] : Array Value)[0]? = some (Value.slice a n cap) from rfl, run_bind, run_underlying ty w h1]
    rfl
  · rename_i p q hd
    obtain ⟨ty, h0, h1⟩ := go _ hd
    cases hn
    cases hu.nilm
    unfold Builtin.len_
    simp only [h0, show (#[Value.map none] : Array Value)[0]? = some (Value.map none) from rfl, run_bind, run_underlying ty w h1]
    rfl
  · cases hn

theorem run_builtin {P : Program} {b : Builtin} {args : Array Operand} {ts : Array TypeId} {dst : Option Tmp} {ty : TypeId} {pos : String} {after : Array Edge} {guard : Option (Nat × Bool)} (ρ : Operand → Value) (w : World) :
    (execOp ρ { dst, op := .call { callee := .builtin b, args, argTypes := ts }, type := ty, pos, after, guard }).run P w =
      (builtin b ts ty (args.map fun | .const _ => true | _ => false) (args.map ρ)).run P w := rfl

theorem ok_len {x : Operand} {args : Array Operand} {ts : Array TypeId} {n : Nat} (ho : o.op = .call { callee := .builtin .len, args, argTypes := ts }) (ha : args.toList = [x])
    (hn : lenT ((ts[0]?).bind E.P.underlying) ob (ev t x) = some n) : OpOK E o t ob base ⟨.int .i64 n, rowName (ev t x), [], base⟩ := by
  refine OpOK.value fun B nt t' ob' a w φ M hv hrd hm => ?_
  have hargs : args = #[x] := by rw [← Array.toArray_toList (xs := args), ha]
  subst hargs
  have h2 := hv x (by rw [ho]; simp [Op.operands, Call.operands])
  obtain ⟨dst, op', ty', pos, after, guard⟩ := o
  subst ho
  refine ⟨.int .i64 n, ?_, .pure (.int _ _)⟩
  rw [run_builtin, show Array.map a.eval #[x] = #[a.eval x] by simp]
  exact run_value (run_len w hn hrd hm h2)

theorem minMax_spec {φ : Phi} {M : Mem} {P : Program} (lt : Bool) (w : World) : ∀ (r : List (TV S)) (x tv : TV S) (u : Value) (vs : List Value), minMax lt x r = some tv → VR E φ M x u →
    r.length = vs.length → (∀ (i : Nat) (y : TV S) (v : Value), r[i]? = some y → vs[i]? = some v → VR E φ M y v) →
    ∃ z, (vs.foldlM (if lt then Builtin.min2 else Builtin.max2) u).run P w = .ok z w ∧ VR E φ M tv z := by
  intro r
  induction r with
  | nil =>
    intro x tv u vs h hu hl _
    have : tv = x := by cases x <;> simp [minMax] at h <;> exact h.symm
    subst this
    have : vs = [] := List.length_eq_zero_iff.1 (by simpa using hl.symm)
    subst this
    exact ⟨u, rfl, hu⟩
  | cons y r ih =>
    intro x tv u vs h hu hl hvs
    cases vs with
    | nil => simp at hl
    | cons v vs =>
      unfold minMax at h
      split at h
      · rename_i heq; cases heq
      · rename_i k p k' q r' heq
        cases heq
        split at h
        · rename_i hk
          subst hk
          have hv := hvs 0 (.int k q) v (by simp) (by simp)
          cases hu.int; cases hv.int
          obtain ⟨z, hz, hzr⟩ := ih _ tv (.int k (if (if lt = true then q < p else q > p) then q else p)) vs h (.pure (.int _ _)) (by simpa using hl) (fun i y v h1 h2 => hvs (i + 1) y v (by simpa using h1) (by simpa using h2))
          refine ⟨z, ?_, hzr⟩
          rw [List.foldlM_cons, run_bind]
          cases lt
          · simp only [Bool.false_eq_true, if_false, Builtin.max2, run_pure] at hz ⊢
            exact hz
          · simp only [if_true, Builtin.min2, run_pure] at hz ⊢
            exact hz
        · cases h
      · cases h

theorem ok_minMax {lt : Bool} {b : Builtin} {x : Operand} {xs : List Operand} {args : Array Operand} {ts : Array TypeId} {tv : TV S} (hb : b = if lt then .min else .max) (ho : o.op = .call { callee := .builtin b, args, argTypes := ts }) (ha : args.toList = x :: xs)
    (h : minMax lt (ev t x) (xs.map (ev t)) = some tv) : OpOK E o t ob base ⟨tv, [], [], base⟩ := by
  refine OpOK.value fun B nt t' ob' a w φ M hv hrd hm => ?_
  have hargs : args = (x :: xs).toArray := by rw [← Array.toArray_toList (xs := args), ha]
  subst hargs
  have hv' : ∀ y ∈ x :: xs, VR E φ M (ev t y) (a.eval y) := fun y hy => hv y (by rw [ho]; simp [Op.operands, Call.operands]; simpa using hy)
  obtain ⟨dst, op', ty', pos, after, guard⟩ := o
  subst ho
  obtain ⟨z, hz, hzr⟩ := minMax_spec (P := E.P) lt w (xs.map (ev t)) (ev t x) tv (a.eval x) (xs.map a.eval) h (hv' x (by simp)) (by simp) (by
    intro i y v h1 h2
    simp only [List.getElem?_map, Option.map_eq_some_iff] at h1 h2
    obtain ⟨p, hp, rfl⟩ := h1
    obtain ⟨q, hq, rfl⟩ := h2
    rw [hp] at hq; cases hq
    exact hv' p (by simp [List.mem_of_getElem? hp]))
  refine ⟨z, ?_, hzr⟩
  rw [run_builtin]
  subst hb
  cases lt
  · refine run_value (s := Builtin.max_ ts ty' _) ?_
    simp only [Bool.false_eq_true, if_false] at hz
    simp only [Builtin.max_, List.map_toArray, List.map_cons]
    exact hz
  · refine run_value (s := Builtin.min_ ts ty' _) ?_
    simp only [if_true] at hz
    simp only [Builtin.min_, List.map_toArray, List.map_cons]
    exact hz
end
end TE
