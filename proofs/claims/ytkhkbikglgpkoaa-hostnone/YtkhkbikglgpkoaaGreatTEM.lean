/- TE: maps. -/
import Derived.Test.YtkhkbikglgpkoaaGreatTE14
import Derived.MapKept
namespace TE
open Go
variable {S : Sig} {E : Env S}

theorem findAt_spec {α : Type} {R : (List Sc × α × Nat) → MapEntry → Prop} (q : List Sc) : ∀ (L : List (List Sc × α × Nat)) (es : List MapEntry) (i0 : Nat), L.length = es.length → (∀ (i : Nat) t e, L[i]? = some t → es[i]? = some e → R t e) →
    (findAt q (L.map (·.1)) es i0 = none ∧ findM q L = none) ∨ ∃ j t e, findAt q (L.map (·.1)) es i0 = some (i0 + j, e.val) ∧ L[j]? = some t ∧ es[j]? = some e ∧ R t e ∧ t.1 = q ∧ findM q L = some t.2.1 ∧
      (∀ y cl, updM q y cl L = L.set j (q, y, t.2.2)) ∧ delM q L = L.eraseIdx j
  | [], [], i0, _, _ => .inl ⟨rfl, rfl⟩
  | [], _ :: _, _, h, _ => by simp at h
  | _ :: _, [], _, h, _ => by simp at h
  | t :: L, e :: es, i0, hl, hR => by
    simp only [List.map_cons, findAt, findM]
    by_cases ht : t.1 = q
    · rw [if_pos ht, if_pos ht]
      exact .inr ⟨0, t, e, rfl, rfl, rfl, hR 0 t e rfl rfl, ht, rfl, fun y cl => by simp [updM, ht], by simp [delM, ht]⟩
    · rw [if_neg ht, if_neg ht]
      rcases findAt_spec q L es (i0 + 1) (by simpa using hl) (fun i t e h1 h2 => hR (i + 1) t e (by simpa using h1) (by simpa using h2)) with h | ⟨j, t', e', h1, h2, h3, h4, h5, h6, h7, h8⟩
      · exact .inl h
      · refine .inr ⟨j + 1, t', e', by rw [h1]; congr 2; omega, by simpa using h2, by simpa using h3, h4, h5, h6, fun y cl => by simp [updM, ht, h7], by simp [delM, ht, h8]⟩

theorem findM_none {α : Type} {q : List Sc} : ∀ {L : List (List Sc × α × Nat)}, findM q L = none ↔ ∀ t ∈ L, t.1 ≠ q
  | [] => by simp [findM]
  | e :: r => by
    simp only [findM]
    by_cases h : e.1 = q
    · simp [h]
    · simp [h, findM_none (L := r)]
theorem updM_new {α : Type} {q : List Sc} {y : α} {cl : Nat} : ∀ {L : List (List Sc × α × Nat)}, findM q L = none → updM q y cl L = L ++ [(q, y, cl)]
  | [], _ => rfl
  | e :: r, h => by
    simp only [findM] at h
    split at h
    · cases h
    · rename_i hne
      simp only [updM, if_neg hne, updM_new h, List.cons_append]
theorem delM_none {α : Type} {q : List Sc} : ∀ {L : List (List Sc × α × Nat)}, findM q L = none → delM q L = L
  | [], _ => rfl
  | e :: r, h => by
    simp only [findM] at h
    split at h
    · cases h
    · rename_i hne
      simp only [delM, if_neg hne, delM_none h]

/-- A map's entries without stamps. -/
def kv {α : Type} (L : List (List Sc × α × Nat)) : List (List Sc × α) := L.map fun t => (t.1, t.2.1)
theorem kv_keys {α : Type} (L : List (List Sc × α × Nat)) : (kv L).map (·.1) = L.map (·.1) := by simp [kv]
theorem findM_kv {α : Type} {q : List Sc} {y : α} : ∀ {L : List (List Sc × α × Nat)}, (L.map (·.1)).Nodup → (findM q L = some y ↔ (q, y) ∈ kv L)
  | [], _ => by simp [findM, kv]
  | e :: r, h => by
    simp only [List.map_cons, List.nodup_cons] at h
    simp only [findM, kv, List.map_cons, List.mem_cons]
    by_cases he : e.1 = q
    · rw [if_pos he]
      constructor
      · intro h'; cases h'; left; rw [← he]
      · rintro (h' | h')
        · cases h'; rfl
        · exfalso
          simp only [List.mem_map] at h'
          obtain ⟨t, ht, e'⟩ := h'
          cases e'
          exact h.1 (by rw [he]; exact List.mem_map.2 ⟨t, ht, rfl⟩)
    · rw [if_neg he, findM_kv h.2]
      constructor
      · intro h'; exact .inr h'
      · rintro (h' | h')
        · cases h'; exact absurd rfl he
        · exact h'
theorem findM_perm {α : Type} {q : List Sc} {L L' : List (List Sc × α × Nat)} (hp : (kv L').Perm (kv L)) (h : (L.map (·.1)).Nodup) : findM q L' = findM q L := by
  have h' : (L'.map (·.1)).Nodup := by
    rw [← kv_keys]; exact (hp.map _).nodup_iff.2 (by rw [kv_keys]; exact h)
  cases hL : findM q L with
  | none =>
    cases hL' : findM q L' with
    | none => rfl
    | some y => rw [findM_kv h', hp.mem_iff, ← findM_kv h, hL] at hL'; cases hL'
  | some y => rw [findM_kv h, ← hp.mem_iff, ← findM_kv h'] at hL; exact hL
theorem updM_kv {α : Type} {q : List Sc} {y : α} {cl : Nat} : ∀ {L : List (List Sc × α × Nat)}, (L.map (·.1)).Nodup → (kv (updM q y cl L)).Perm ((q, y) :: (kv L).filter fun p => decide (p.1 ≠ q))
  | [], _ => by simp [updM, kv]
  | e :: r, h => by
    simp only [List.map_cons, List.nodup_cons] at h
    simp only [updM]
    by_cases he : e.1 = q
    · rw [if_pos he]
      have : ∀ p ∈ kv r, decide (p.1 ≠ q) = true := by
        intro p hp
        simp only [kv, List.mem_map] at hp
        obtain ⟨t, ht, rfl⟩ := hp
        simp only [decide_eq_true_eq]
        intro e'
        exact h.1 (by rw [he, ← e']; exact List.mem_map.2 ⟨t, ht, rfl⟩)
      have hf : (kv (e :: r)).filter (fun p => decide (p.1 ≠ q)) = kv r := by
        simp only [kv, List.map_cons]
        rw [List.filter_cons_of_neg (by simp [he])]
        exact List.filter_eq_self.2 this
      rw [hf]; exact List.Perm.refl _
    · rw [if_neg he]
      simp only [kv, List.map_cons]
      rw [List.filter_cons_of_pos (by simp [he])]
      exact ((updM_kv h.2).cons _).trans (List.Perm.swap _ _ _)
theorem delM_kv {α : Type} {q : List Sc} : ∀ {L : List (List Sc × α × Nat)}, (L.map (·.1)).Nodup → kv (delM q L) = (kv L).filter fun p => decide (p.1 ≠ q)
  | [], _ => by simp [delM, kv]
  | e :: r, h => by
    simp only [List.map_cons, List.nodup_cons] at h
    simp only [delM]
    by_cases he : e.1 = q
    · rw [if_pos he]
      have : ∀ p ∈ kv r, decide (p.1 ≠ q) = true := by
        intro p hp
        simp only [kv, List.mem_map] at hp
        obtain ⟨t, ht, rfl⟩ := hp
        simp only [decide_eq_true_eq]
        intro e'
        exact h.1 (by rw [he, ← e']; exact List.mem_map.2 ⟨t, ht, rfl⟩)
      simp only [kv, List.map_cons]
      rw [List.filter_cons_of_neg (by simp [he])]
      exact (List.filter_eq_self.2 this).symm
    · rw [if_neg he]
      simp only [kv, List.map_cons]
      rw [List.filter_cons_of_pos (by simp [he])]
      exact congrArg _ (delM_kv h.2)
theorem updM_nodup {α : Type} {q : List Sc} {y : α} {cl : Nat} {L : List (List Sc × α × Nat)} (h : (L.map (·.1)).Nodup) : ((updM q y cl L).map (·.1)).Nodup := by
  rw [← kv_keys]
  refine ((updM_kv h).map _).nodup_iff.2 ?_
  simp only [List.map_cons, List.nodup_cons]
  refine ⟨?_, ?_⟩
  · intro hm
    obtain ⟨p, hp, e⟩ := List.mem_map.1 hm
    have := (List.mem_filter.1 hp).2
    simp at this
    exact this e
  · have : ((kv L).map (·.1)).Nodup := by rw [kv_keys]; exact h
    exact ((List.filter_sublist).map _).nodup this
theorem delM_nodup {α : Type} {q : List Sc} {L : List (List Sc × α × Nat)} (h : (L.map (·.1)).Nodup) : ((delM q L).map (·.1)).Nodup := by
  rw [← kv_keys, delM_kv h]
  have : ((kv L).map (·.1)).Nodup := by rw [kv_keys]; exact h
  exact ((List.filter_sublist).map _).nodup this

theorem scTV_VR (E : Env S) (φ : Phi) (M : Mem) (x : Sc) : VR E φ M (scTV x) (scVal x) := by
  cases x with
  | bool b => exact .pure (.bool b)
  | int k n => exact .pure (.int k n)
  | str s => exact .pure (.str s)
theorem keyTV_VR (E : Env S) (φ : Phi) (M : Mem) (ag : Bool) (k : List Sc) : VR E φ M (keyTV ag k) (keyVal ag k) := by
  unfold keyTV keyVal
  cases ag with
  | true =>
    simp only [if_true]
    refine .agg (by simp) fun i tv v h1 h2 => ?_
    rw [List.getElem?_map] at h1
    obtain ⟨x, hx, rfl⟩ := Option.map_eq_some_iff.1 h1
    simp [hx] at h2
    subst h2
    exact scTV_VR E φ M x
  | false =>
    simp only [Bool.false_eq_true, if_false]
    match k with
    | [x] => exact scTV_VR E φ M x
    | [] => exact .pure .undef
    | _ :: _ :: _ => exact .pure .undef
/-! memory -/
theorem RelW.setMap (hE : EncOk E) {B : Base} {o : Nat → Option (Obj S)} {w : World} {φ : Phi} {M : Mem} (h : RelW E B o w φ M) {nm : Nat} {g : GI} {ag : Bool} {sh : List ScK} {vag : Bool} {vc : S.K} {L L2 : List (List Sc × S.El vc × Nat)} {ex ex2 : Bool} {cl cl2 cl0' : Nat} {es2 : Array MapEntry}
    (hg : φ nm = some g) (hs : o nm = some (.mapo ag sh vag vc L ex cl)) (hm : MapIs E M ag sh vag vc L2 ex2 cl2 es2 cl0') :
    RelW E B (setF o nm (some (.mapo ag sh vag vc L2 ex2 cl2))) { w with heap := w.heap.setIfInBounds g.b (.map es2 cl0') } φ M := by
  have hlt := h.csz nm _ g.b 0 hs (claim_mapo hg)
  refine h.step hE (· = nm) (· = g.b) (Phi.le_refl _) (Mem.le_refl _) (by simp) rfl rfl rfl (fun b _ hne => Array.getElem?_setIfInBounds_ne (Ne.symm hne)) ?_ (fun b off hd => absurd rfl hd)
    (fun b off v h1 h2 => by rw [h1] at h2; cases h2) (fun n' hn' => ⟨setF_ne _ _ hn', rfl⟩) ?_ ?_ ?_ ?_ (fun _ _ => rfl)
  · rintro b rfl
    exact ⟨nm, _, 0, rfl, hs, claim_mapo hg, fun off ho => absurd ho (Nat.not_lt_zero _)⟩
  · rintro n' y rfl hy
    rw [setF_self] at hy; cases hy
    exact ⟨g, hg, es2, cl0', by simp [hlt], hm⟩
  · rintro n' rfl hy
    rw [setF_self] at hy; cases hy
  · rintro n' y b f rfl hy hcl
    rw [setF_self] at hy; cases hy
    obtain ⟨rfl, rfl⟩ := claim_mapo' hg _ _ hcl
    exact ⟨by simpa using hlt, .inr ⟨n', _, 0, rfl, hs, claim_mapo hg⟩, fun off ho => h.mdis n' _ g.b 0 off hs (claim_mapo hg) ho⟩
  · rintro n1 n2 _ _ _ _ _ rfl rfl _ _ _ _; rfl

theorem RelW.newMap (hE : EncOk E) {B : Base} {o : Nat → Option (Obj S)} {w : World} {φ : Phi} {M : Mem} (h : RelW E B o w φ M) {nm : Nat} (hn : o nm = none) (hB : B.m ≤ nm) (ag : Bool) (sh : List ScK) (vag : Bool) (vc : S.K) :
    RelW E B (setF o nm (some (.mapo ag sh vag vc [] true 0))) { w with heap := w.heap.push (.map #[] 0) } (setF φ nm (some ⟨w.heap.size, 0, 0, 0, fun _ => false⟩)) M ∧ φ.le (setF φ nm (some ⟨w.heap.size, 0, 0, 0, fun _ => false⟩)) := by
  have hle : φ.le (setF φ nm (some ⟨w.heap.size, 0, 0, 0, fun _ => false⟩)) := Phi.le_of <| by
    intro n g hg
    by_cases e : n = nm
    · subst e; rw [h.fresh n hn] at hg; cases hg
    · rw [setF_ne _ _ e]; exact hg
  have hself : setF φ nm (some (⟨w.heap.size, 0, 0, 0, fun _ => false⟩ : GI)) nm = some ⟨w.heap.size, 0, 0, 0, fun _ => false⟩ := setF_self _ _ _
  refine ⟨h.step hE (· = nm) (fun _ => False) hle (Mem.le_refl _) (by simp) rfl rfl rfl (fun b hb _ => ?_) (fun b hb => hb.elim) (fun b off hd => absurd rfl hd)
    (fun b off v h1 h2 => by rw [h1] at h2; cases h2) (fun n' hn' => ⟨setF_ne _ _ hn', setF_ne _ _ hn'⟩) ?_ ?_ ?_ ?_ (fun n' hn' => setF_ne _ _ (by omega)), hle⟩
  · show (w.heap.push _)[b]? = _
    rw [Array.getElem?_push, if_neg (by omega)]
  · rintro n' y rfl hy
    rw [setF_self] at hy; cases hy
    exact ⟨_, hself, #[], 0, by simp, [], rfl, fun i t e ht => by simp at ht, fun _ => ⟨rfl, rfl⟩, List.Perm.refl _, by simp, by simp, by simp⟩
  · rintro n' rfl hy
    rw [setF_self] at hy; cases hy
  · rintro n' y b f rfl hy hcl
    rw [setF_self] at hy; cases hy
    obtain ⟨rfl, rfl⟩ := claim_mapo' hself _ _ hcl
    refine ⟨by simp, .inl (Nat.le_refl _), fun off _ => ?_⟩
    cases hm : M w.heap.size off with
    | none => rfl
    | some v => have := size_of_cell (h.mval _ _ _ hm); omega
  · rintro n1 n2 _ _ _ _ _ rfl rfl _ _ _ _; rfl

/-! values -/
theorem scOf_VR {φ : Phi} {M : Mem} {v : TV S} {x : Sc} {u : Value} (h : scOf v = some x) (hv : VR E φ M v u) : u = scVal x := by
  cases v <;> simp only [scOf, Option.some.injEq] at h <;> first | (cases h; done) | (subst h; first | exact hv.bool | exact hv.int | exact hv.str)
theorem scsOf_get : ∀ {cs : List (TV S)} {l : List Sc}, scsOf cs = some l → cs.length = l.length ∧ ∀ (i : Nat) v x, cs[i]? = some v → l[i]? = some x → scOf v = some x
  | [], l, h => by simp only [scsOf, Option.some.injEq] at h; subst h; simp
  | v :: r, l, h => by
    simp only [scsOf] at h
    split at h
    · rename_i x l' h1 h2
      cases h
      obtain ⟨h3, h4⟩ := scsOf_get h2
      refine ⟨by simp [h3], fun i v' x' hv hx => ?_⟩
      cases i with
      | zero => simp at hv hx; subst hv; subst hx; exact h1
      | succ i => exact h4 i v' x' (by simpa using hv) (by simpa using hx)
    · cases h
theorem keyIn_VR {φ : Phi} {M : Mem} {ag : Bool} {sh : List ScK} {v : TV S} {q : List Sc} {u : Value} (h : keyIn ag sh v = some q) (hv : VR E φ M v u) : u = keyVal ag q ∧ shaped sh q = true := by
  unfold keyIn at h
  split at h
  · rename_i cs
    obtain ⟨k, h1, h2⟩ := Option.bind_eq_some_iff.1 h
    split at h2
    · rename_i hs
      cases h2
      refine ⟨?_, hs⟩
      obtain ⟨us, rfl, hl, hc⟩ := hv.agg_inv
      obtain ⟨h3, h4⟩ := scsOf_get h1
      simp only [keyVal, if_true]
      congr 1
      apply Array.ext'
      apply List.ext_getElem?
      intro i
      by_cases hi : i < us.size
      · have e1 : cs[i]? = some cs[i] := List.getElem?_eq_getElem (by omega)
        have e2 : q[i]? = some (q[i]'(by omega)) := List.getElem?_eq_getElem (by omega)
        have e3 : us[i]? = some us[i] := Array.getElem?_eq_getElem hi
        have := scOf_VR (h4 i _ _ e1 e2) (hc i _ _ e1 e3)
        rw [Array.getElem?_toList, e3, this]
        simp [e2]
      · rw [List.getElem?_eq_none_iff.2 (by simp; omega), List.getElem?_eq_none_iff.2 (by simp; omega)]
    · cases h2
  · obtain ⟨x, h1, h2⟩ := Option.bind_eq_some_iff.1 h
    split at h2
    · rename_i hs
      cases h2
      exact ⟨scOf_VR h1 hv, hs⟩
    · cases h2
  · cases h

section
variable {R : Type} {k : Eff S → Option R} {r : R} {t : Nat → TV S} {ob : Nat → Option (Obj S)} {base : Nat} {o : Oper}

/-- A value that goes in, or that comes out, by its cells. -/
theorem take_agg {c : S.K} (hE : EncOk E) (x : S.El c) : takeCells true (E.sz c) 0 (E.enc c x) = some (.agg (E.enc c x)) := by
  simp only [takeCells, if_true]
  rw [if_pos (by rw [hE.len]; omega), List.drop_zero, ← hE.len c x, List.take_length]
theorem dec_VR (hE : EnvOk E) {c : S.K} {cs : List (TV S)} {x : S.El c} {M : Mem} {vag : Bool} {u : Value} (hd : E.dec c cs = some x)
    (h : if vag = true then ∃ vs, u = .agg vs ∧ cs.length = vs.size ∧ ∀ (i : Nat) tv v, cs[i]? = some tv → vs[i]? = some v → CR E M tv v else ∃ tv, cs = [tv] ∧ CR E M tv u) :
    ∃ tv, takeCells vag (E.sz c) 0 (E.enc c x) = some tv ∧ VR E (fun _ => none) M tv u := by
  have hlen := hE.decLen c cs x hd
  have hel := hE.len c x
  cases vag with
  | true =>
    simp only [if_true] at h
    obtain ⟨vs, rfl, hl, hc⟩ := h
    refine ⟨_, take_agg hE.toEncOk x, .agg (by omega) fun i tv v hi hv => ?_⟩
    have hlt := (Array.getElem?_eq_some_iff.1 hv).1
    have hcs : cs[i]? = some cs[i] := List.getElem?_eq_getElem (by omega)
    obtain ⟨tv', h1, h2⟩ := hE.dec c cs x M i _ v hd hcs (hc i _ v hcs hv)
    rw [hi] at h1; cases h1
    exact .pure h2
  | false =>
    simp only [Bool.false_eq_true, if_false] at h
    obtain ⟨tv, rfl, hc⟩ := h
    obtain ⟨tv', h1, h2⟩ := hE.dec c [tv] x M 0 tv u hd rfl hc
    exact ⟨tv', by simpa [takeCells] using h1, .pure h2⟩

theorem zeroShape_spec {P : Program} {et : TypeId} {vag : Bool} {i : TypeInfo} {zv : Value} (hi : P.info? et = some i) (hz : i.zero = some zv) (h : zeroShape P et = some vag) :
    if vag = true then ∃ vs, zv = .agg vs else zv.cells = #[zv] := by
  unfold zeroShape at h
  rw [hi] at h
  simp only [hz] at h
  cases zv <;> simp at h <;> subst h <;> simp [Value.cells]

theorem zero_VR (hE : EnvOk E) {et : TypeId} {vc : S.K} {z : List (TV S)} {d : S.El vc} {vag : Bool} (M : Mem) (hz : zeroT E.P et = some z) (hal : z.all aliveCell = true) (hs : zeroShape E.P et = some vag) (hd : E.dec vc z = some d) :
    ∃ zv i, E.P.info? et = some i ∧ i.zero = some zv ∧ ∃ tv, takeCells vag (E.sz vc) 0 (E.enc vc d) = some tv ∧ VR E (fun _ => none) M tv zv := by
  obtain ⟨i, zv, hi, hzv, rfl⟩ := zeroT_spec hz
  have hsh := zeroShape_spec hi hzv hs
  refine ⟨zv, i, hi, hzv, dec_VR hE hd ?_⟩
  have hcell : ∀ (j : Nat) tv v, (zv.cells.toList.map (ofVal (S := S)))[j]? = some tv → zv.cells[j]? = some v → CR E M tv v := by
    intro j tv v h1 h2
    rw [List.getElem?_map, Array.getElem?_toList, h2] at h1
    simp only [Option.map_some, Option.some.injEq] at h1
    subst h1
    exact ofVal_CR E M v (List.all_eq_true.1 hal _ (List.mem_map.2 ⟨v, by simpa using Array.mem_of_getElem? h2, rfl⟩))
  cases vag with
  | true =>
    simp only [if_true] at hsh ⊢
    obtain ⟨vs, rfl⟩ := hsh
    exact ⟨vs, rfl, by simp [Value.cells], hcell⟩
  | false =>
    simp only [Bool.false_eq_true, if_false] at hsh ⊢
    refine ⟨ofVal zv, by rw [hsh]; simp, hcell 0 _ _ (by rw [hsh]; simp) (by rw [hsh]; simp)⟩

theorem ok_makeMap (hE : EnvOk E) {ty kt et : TypeId} {ag : Bool} {sh : List ScK} {vc : S.K} {vag : Bool} (ho : o.op = .makeMap ty none) (hu : E.P.underlying ty = some (.map kt et)) :
    OpOK E o t ob base ⟨.map base, [], [(base, .mapo ag sh vag vc [] true 0)], base + 1⟩ := by
  refine ⟨by simp, fun p hp => ?_, fun n h1 h2 => ?_, ?_⟩
  · simp only [List.mem_singleton] at hp; subst hp; exact .inl ⟨Nat.le_refl _, Nat.lt_succ_self _⟩
  · simp only at h2; simp; omega
  · intro B nt t' ob' a w φ M Q hd hev hrd hfr hB hrel
    have hnone : ob' base = none := hfr base (Nat.le_refl _) (Nat.lt_succ_self _)
    obtain ⟨h1, h2⟩ := hrel.mem.newMap hE.toEncOk hnone hB ag sh vag vc
    obtain ⟨dst, op', ty', pos, after, guard⟩ := o
    subst ho
    refine upon_of_value (v := .map (some w.heap.size)) (w' := { w with heap := w.heap.push (.map #[] 0) }) (run_value ?_) ⟨_, M, hrel.put hd h2 (Mem.le_refl _) (.map (setF_self _ _ _)) h1⟩
    rfl

/-- What the memory of a map says of a key. -/
theorem MapIs.find (hE : EnvOk E) {M : Mem} {kt : TypeId} {ag : Bool} {sh : List ScK} {vag : Bool} {vc : S.K} {L : List (List Sc × S.El vc × Nat)} {ex : Bool} {cl cl' : Nat} {es : Array MapEntry} (hk : E.keyTy kt = some (ag, sh)) (hm : MapIs E M ag sh vag vc L ex cl es cl') {q : List Sc} (hq : shaped sh q = true) (w : World) :
    ∃ L' : List (List Sc × S.El vc × Nat), L'.length = es.size ∧ (∀ (i : Nat) t e, L'[i]? = some t → es[i]? = some e → EntR E M ag sh vag vc t e) ∧ (ex = true → L' = L ∧ cl' = cl) ∧ (kv L').Perm (kv L) ∧ (L.map (·.1)).Nodup ∧ (L'.map (·.2.2)).Nodup ∧ (∀ t ∈ L', t.2.2 < cl') ∧ findM q L' = findM q L ∧
    (((Instr.findKey kt (keyVal ag q) es.toList).run E.P w = .ok none w ∧ findM q L' = none) ∨ ∃ j t e, (Instr.findKey kt (keyVal ag q) es.toList).run E.P w = .ok (some (j, e.val)) w ∧ L'[j]? = some t ∧ es[j]? = some e ∧ EntR E M ag sh vag vc t e ∧ t.1 = q ∧ findM q L' = some t.2.1 ∧
      (∀ y cl, updM q y cl L' = L'.set j (q, y, t.2.2)) ∧ delM q L' = L'.eraseIdx j) := by
  obtain ⟨L', h1, h2, h3, h4, h5, h6, h7⟩ := hm
  refine ⟨L', h1, h2, h3, h4, h5, h6, h7, findM_perm h4 h5, ?_⟩
  have hR : ∀ (i : Nat) t e, L'[i]? = some t → es.toList[i]? = some e → EntR E M ag sh vag vc t e := fun i t e ht he => h2 i t e ht (by simpa using he)
  have hkeys : es.toList.map (·.key) = (L'.map (·.1)).map (keyVal ag) := by
    apply List.ext_getElem?
    intro i
    by_cases hi : i < es.size
    · have e1 : L'[i]? = some (L'[i]'(by omega)) := List.getElem?_eq_getElem (by omega)
      have e2 : es.toList[i]? = some es[i] := by rw [Array.getElem?_toList]; exact Array.getElem?_eq_getElem hi
      obtain ⟨_, hkk, _⟩ := hR i _ _ e1 e2
      rw [List.getElem?_map, e2, List.getElem?_map, List.getElem?_map, e1]
      simp [hkk]
    · rw [List.getElem?_eq_none_iff.2 (by simp; omega), List.getElem?_eq_none_iff.2 (by simp; omega)]
  have hsh : ∀ k ∈ L'.map (·.1), shaped sh k = true := by
    intro k hk
    obtain ⟨t, ht, rfl⟩ := List.mem_map.1 hk
    obtain ⟨i, hi⟩ := List.mem_iff_getElem?.1 ht
    have hlt := (List.getElem?_eq_some_iff.1 hi).1
    exact (hR i t _ hi (by rw [Array.getElem?_toList]; exact Array.getElem?_eq_getElem (by omega))).1
  have hf := (hE.keys kt ag sh hk).find w q hq es.toList (L'.map (·.1)) hkeys hsh
  rcases findAt_spec (R := EntR E M ag sh vag vc) q L' es.toList 0 (by simpa using h1) hR with ⟨e1, e2⟩ | ⟨j, t, e, e1, e2, e3, e4, e5, e6, e7, e8⟩
  · exact .inl ⟨by rw [hf, e1], e2⟩
  · exact .inr ⟨j, t, e, by rw [hf, e1, Nat.zero_add], e2, by simpa using e3, e4, e5, e6, e7, e8⟩

theorem lookup_nil {P : Program} {ty kt et : TypeId} {kvl zv : Value} {ok : Bool} (w : World) (hu : P.underlying ty = some (.map kt et)) (hc : ∀ em, (Instr.checkKey em 10000 kt kvl).run P w = .ok () w) (hf : (Instr.findKey kt kvl []).run P w = .ok none w) (hz : (zeroValue et).run P w = .ok zv w) :
    (Instr.lookup ty (.map none) kvl ok).run P w = .ok (if ok = true then .tuple #[zv, .bool false] else zv) w := by
  unfold Instr.lookup
  simp [Go.run_underlying hu, hc, hf, hz, Result.andThen]
theorem lookup_some {P : Program} {ty kt et : TypeId} {kvl zv : Value} {ok : Bool} {b cl : Nat} {es : Array MapEntry} (w : World) (hu : P.underlying ty = some (.map kt et)) (hb : w.heap[b]? = some (.map es cl)) (hc : ∀ em, (Instr.checkKey em 10000 kt kvl).run P w = .ok () w) (hz : (zeroValue et).run P w = .ok zv w) {x : Option (Nat × Value)} (hf : (Instr.findKey kt kvl es.toList).run P w = .ok x w) :
    (Instr.lookup ty (.map (some b)) kvl ok).run P w = .ok (if ok = true then .tuple #[(x.map (·.2)).getD zv, .bool x.isSome] else (x.map (·.2)).getD zv) w := by
  unfold Instr.lookup
  cases x with
  | none => simp [Go.run_underlying hu, MapKept.run_getObj_map hb, hc, hf, hz, Result.andThen]
  | some p => obtain ⟨i, v⟩ := p; simp [Go.run_underlying hu, MapKept.run_getObj_map hb, hc, hf, Result.andThen]

theorem ok_lookup (hE : EnvOk E) {ty kt et : TypeId} {m x : Operand} {ok : Bool} (ho : o.op = .lookup ty m x ok) (hu : E.P.underlying ty = some (.map kt et)) (h : lookupEval E ob base kt et (ev t m) (ev t x) ok k = some r) : ∃ e, k e = some r ∧ OpOK E o t ob base e := by
  unfold lookupEval at h
  split at h
  · rename_i ag sh vc z vag n hkt hcode hz hty
    split at h
    · rename_i d q hd hq
      split at h
      · rename_i hchk
        obtain ⟨hal, hn, hzs⟩ := hchk
        have law := hE.keys kt ag sh hkt
        have out : ∀ {φ : Phi} {M : Mem} {tv : TV S} {u : Value} {b : Bool}, VR E (fun _ => none) M tv u → VR E φ M (if ok = true then .tup [tv, .bool b] else tv) (if ok = true then .tuple #[u, .bool b] else u) := by
          intro φ M tv u b hv
          have hv' : VR E φ M tv u := hv.mono (fun _ _ h => by cases h) (Mem.le_refl _)
          cases ok with
          | false => exact hv'
          | true =>
            refine .tup rfl fun i tv' v' h1 h2 => ?_
            match i with
            | 0 => simp at h1 h2; subst h1; subst h2; exact hv'
            | 1 => simp at h1 h2; subst h1; subst h2; exact .pure (.bool _)
            | i + 2 => simp at h1
        split at h
        · rename_i hm
          split at h
          · rename_i v hv
            refine ⟨_, h, OpOK.value fun B nt t' ob' a w φ M hev hrd hmem => ?_⟩
            have hx1 := hev x (by rw [ho]; simp [Op.operands])
            have hm1 := hev m (by rw [ho]; simp [Op.operands])
            rw [hm] at hm1
            obtain ⟨e1, e2⟩ := keyIn_VR hq hx1
            obtain ⟨zv, i, hi, hzv, tv, h1, h2⟩ := zero_VR hE M hz hal hzs hd
            rw [hv] at h1; cases h1
            obtain ⟨dst, op', ty', pos, after, guard⟩ := o
            subst ho
            refine ⟨_, run_value ?_, out h2⟩
            rw [hm1.nilm, e1]
            exact lookup_nil w hu (fun em => law.check w em q e2) (law.find w q e2 [] [] rfl (by simp)) (run_zeroValue et w hi hzv)
          · cases h
        · rename_i nm hm
          split at h
          · rename_i ag' sh' vag' vc' L ex cl hob
            split at h
            · rename_i hh
              obtain ⟨⟨rfl, rfl⟩, rfl, rfl⟩ := hh
              simp only [castMap] at h
              split at h
              · rename_i v hv
                refine ⟨_, h, OpOK.value fun B nt t' ob' a w φ M hev hrd hmem => ?_⟩
                have hx1 := hev x (by rw [ho]; simp [Op.operands])
                have hm1 := hev m (by rw [ho]; simp [Op.operands])
                rw [hm] at hm1
                obtain ⟨g, hg, em1⟩ := hm1.map_inv
                obtain ⟨e1, e2⟩ := keyIn_VR hq hx1
                obtain ⟨zv, i, hi, hzv, tv, h1, h2⟩ := zero_VR hE M hz hal hzs hd
                have hob' : ob' nm = some (.mapo ag' sh' vag' vc' L ex cl) := by rw [hrd nm (by simp)]; exact hob
                obtain ⟨g', hg', es, cl', hb, hmi⟩ := hmem.objs nm _ hob'
                rw [hg] at hg'; cases hg'
                obtain ⟨L', l1, l2, l3, l4, l5, l6, l7, l8, l9⟩ := hmi.find hE hkt e2 w
                obtain ⟨dst, op', ty', pos, after, guard⟩ := o
                subst ho
                rcases l9 with ⟨f1, f2⟩ | ⟨j, tt, e, f1, f2, f3, f4, f5, f6, _⟩
                · rw [f2] at l8
                  rw [← l8] at hv ⊢
                  simp only [Option.getD_none] at hv
                  rw [hv] at h1; cases h1
                  refine ⟨_, run_value ?_, out (b := false) h2⟩
                  rw [em1, e1]
                  have := lookup_some (ok := ok) w hu hb (fun em => law.check w em q e2) (run_zeroValue et w hi hzv) f1
                  simpa using this
                · rw [f6] at l8
                  rw [← l8] at hv ⊢
                  simp only [Option.getD_some] at hv
                  obtain ⟨_, _, _, tv2, g1, g2⟩ := f4
                  rw [hv] at g1; cases g1
                  refine ⟨_, run_value ?_, out (b := true) g2⟩
                  rw [em1, e1]
                  have := lookup_some (ok := ok) w hu hb (fun em => law.check w em q e2) (run_zeroValue et w hi hzv) f1
                  simpa using this
              · cases h
            · cases h
          · cases h
        · cases h
      · cases h
    · cases h
  · cases h

theorem mapIs_upd {M : Mem} {ag : Bool} {sh : List ScK} {vag : Bool} {vc : S.K} {L L' : List (List Sc × S.El vc × Nat)} {ex : Bool} {cl cl' : Nat} {es : Array MapEntry} {q : List Sc} {d : S.El vc} {v : Value} (hq : shaped sh q = true)
    (l1 : L'.length = es.size) (l2 : ∀ (i : Nat) t e, L'[i]? = some t → es[i]? = some e → EntR E M ag sh vag vc t e) (l3 : ex = true → L' = L ∧ cl' = cl) (l4 : (kv L').Perm (kv L)) (l5 : (L.map (·.1)).Nodup) (l6 : (L'.map (·.2.2)).Nodup) (l7 : ∀ t ∈ L', t.2.2 < cl')
    (hv : ∃ tv, takeCells vag (E.sz vc) 0 (E.enc vc d) = some tv ∧ VR E (fun _ => none) M tv v) (l8 : findM q L' = findM q L) :
    (findM q L' = none → MapIs E M ag sh vag vc (updM q d cl L) ex (if (findM q L).isSome = true then cl else cl + 1) (es.push ⟨keyVal ag q, v, cl'⟩) (cl' + 1)) ∧
    (∀ j t e, L'[j]? = some t → es[j]? = some e → t.1 = q → findM q L' = some t.2.1 → (∀ y cl, updM q y cl L' = L'.set j (q, y, t.2.2)) →
      MapIs E M ag sh vag vc (updM q d cl L) ex (if (findM q L).isSome = true then cl else cl + 1) (es.modify j fun e => { e with key := keyVal ag q, val := v }) cl') := by
  have n' : (L'.map (·.1)).Nodup := by rw [← kv_keys]; exact (l4.map _).nodup_iff.2 (by rw [kv_keys]; exact l5)
  have perm : ∀ c, (kv (updM q d c L')).Perm (kv (updM q d cl L)) := fun c =>
    (updM_kv n').trans (((l4.filter _).cons _).trans (updM_kv l5).symm)
  refine ⟨fun hnone => ?_, fun j t e hj he ht hf hset => ?_⟩
  · have hL : findM q L = none := by rw [← l8]; exact hnone
    refine ⟨updM q d cl' L', ?_, fun i t e hi he => ?_, fun hex => ?_, perm cl', updM_nodup l5, ?_, fun t ht => ?_⟩
    · rw [updM_new hnone]; simp [l1]
    · rw [updM_new hnone] at hi
      by_cases hlt : i < es.size
      · rw [List.getElem?_append_left (by omega)] at hi
        rw [Array.getElem?_push_lt hlt] at he
        exact l2 i t e hi (by rw [Array.getElem?_eq_getElem hlt]; exact he)
      · have : i = es.size := by
          have := (List.getElem?_eq_some_iff.1 hi).1
          simp at this; omega
        subst this
        rw [List.getElem?_append_right (by omega), l1] at hi
        simp at hi
        subst hi
        simp at he
        subst he
        exact ⟨hq, rfl, rfl, hv⟩
    · obtain ⟨rfl, rfl⟩ := l3 hex
      rw [hL]
      exact ⟨rfl, by simp⟩
    · rw [updM_new hnone]
      simp only [List.map_append, List.map_cons, List.map_nil]
      rw [List.nodup_append]
      refine ⟨l6, by simp, fun a ha b hb e => ?_⟩
      simp at hb
      obtain ⟨t, ht, rfl⟩ := List.mem_map.1 ha
      have := l7 t ht
      omega
    · rw [updM_new hnone] at ht
      rcases List.mem_append.1 ht with h | h
      · have := l7 t h; omega
      · simp at h; subst h; exact Nat.lt_succ_self _
  · have hL : (findM q L).isSome = true := by rw [← l8, hf]; rfl
    rw [hL]
    simp only [if_true]
    have hjl := (List.getElem?_eq_some_iff.1 hj).1
    have e1 : ∀ c, updM q d c L' = L'.set j (q, d, t.2.2) := fun c => hset d c
    have born : (L'.set j (q, d, t.2.2)).map (·.2.2) = L'.map (·.2.2) := by
      apply List.ext_getElem?
      intro i
      rw [List.getElem?_map, List.getElem?_map, List.getElem?_set]
      by_cases hij : j = i
      · subst hij; rw [if_pos rfl, if_pos hjl, hj]; rfl
      · rw [if_neg hij]
    refine ⟨updM q d cl L', by rw [e1]; simp [l1], fun i t' e' hi he' => ?_, fun hex => ?_, perm cl, updM_nodup l5, by rw [e1, born]; exact l6, fun t' ht' => ?_⟩
    · rw [e1, List.getElem?_set] at hi
      rw [Array.getElem?_modify] at he'
      by_cases hij : j = i
      · subst hij
        rw [if_pos rfl, if_pos hjl] at hi
        rw [if_pos rfl, he] at he'
        cases hi; simp at he'; subst he'
        obtain ⟨_, _, hb, _⟩ := l2 j t e hj he
        exact ⟨hq, rfl, hb, hv⟩
      · rw [if_neg hij] at hi
        rw [if_neg hij] at he'
        exact l2 i t' e' hi he'
    · obtain ⟨rfl, rfl⟩ := l3 hex
      exact ⟨rfl, rfl⟩
    · rw [e1] at ht'
      have : t'.2.2 ∈ (L'.set j (q, d, t.2.2)).map (·.2.2) := List.mem_map.2 ⟨t', ht', rfl⟩
      rw [born] at this
      obtain ⟨t2, ht2, e2⟩ := List.mem_map.1 this
      rw [← e2]; exact l7 t2 ht2

theorem mapIs_del {M : Mem} {ag : Bool} {sh : List ScK} {vag : Bool} {vc : S.K} {L L' : List (List Sc × S.El vc × Nat)} {ex : Bool} {cl cl' : Nat} {es : Array MapEntry} {q : List Sc}
    (l1 : L'.length = es.size) (l2 : ∀ (i : Nat) t e, L'[i]? = some t → es[i]? = some e → EntR E M ag sh vag vc t e) (l3 : ex = true → L' = L ∧ cl' = cl) (l4 : (kv L').Perm (kv L)) (l5 : (L.map (·.1)).Nodup) (l6 : (L'.map (·.2.2)).Nodup) (l7 : ∀ t ∈ L', t.2.2 < cl') {es' : Array MapEntry}
    (h : (findM q L' = none ∧ es' = es) ∨ ∃ j, j < es.size ∧ delM q L' = L'.eraseIdx j ∧ es' = es.eraseIdxIfInBounds j) : MapIs E M ag sh vag vc (delM q L) ex cl es' cl' := by
  have n' : (L'.map (·.1)).Nodup := by rw [← kv_keys]; exact (l4.map _).nodup_iff.2 (by rw [kv_keys]; exact l5)
  have perm : (kv (delM q L')).Perm (kv (delM q L)) := by rw [delM_kv n', delM_kv l5]; exact l4.filter _
  have same : ex = true → delM q L' = delM q L ∧ cl' = cl := fun hex => by obtain ⟨rfl, rfl⟩ := l3 hex; exact ⟨rfl, rfl⟩
  rcases h with ⟨h1, rfl⟩ | ⟨j, hj, h1, rfl⟩
  · rw [delM_none h1] at perm same
    exact ⟨L', l1, l2, same, perm, delM_nodup l5, l6, l7⟩
  · have hes : (es.eraseIdxIfInBounds j).toList = es.toList.eraseIdx j := by simp [Array.eraseIdxIfInBounds, hj]
    refine ⟨L'.eraseIdx j, ?_, fun i t e hi he => ?_, by rw [← h1]; exact same, by rw [← h1]; exact perm, delM_nodup l5, ?_, fun t ht => l7 t (List.mem_of_mem_eraseIdx ht)⟩
    · rw [← Array.length_toList, hes, List.length_eraseIdx, List.length_eraseIdx]; simp [l1]
    · have he2 : (es.toList.eraseIdx j)[i]? = some e := by rw [← hes, Array.getElem?_toList]; exact he
      rw [List.getElem?_eraseIdx] at hi he2
      split at hi
      · rename_i hij
        rw [if_pos hij] at he2
        exact l2 i t e hi (by simpa using he2)
      · rename_i hij
        rw [if_neg hij] at he2
        exact l2 (i + 1) t e hi (by simpa using he2)
    · exact ((List.eraseIdx_sublist _ _).map _).nodup l6

theorem update_new {P : Program} {ty kt et : TypeId} {kvl v : Value} {b cl : Nat} {es : Array MapEntry} (w : World) (hu : P.underlying ty = some (.map kt et)) (hb : w.heap[b]? = some (.map es cl)) (hc : ∀ em, (Instr.checkKey em 10000 kt kvl).run P w = .ok () w) (hf : (Instr.findKey kt kvl es.toList).run P w = .ok none w) :
    (Instr.mapUpdate ty (.map (some b)) kvl v).run P w = .ok () { w with heap := w.heap.setIfInBounds b (.map (es.push ⟨kvl, v, cl⟩) (cl + 1)) } := by
  unfold Instr.mapUpdate
  simp [Go.run_underlying hu, MapKept.run_getObj_map hb, hc, hf, MapKept.run_setObj_map _ hb, Result.andThen]
theorem update_old {P : Program} {ty kt et : TypeId} {kvl v u : Value} {b cl j : Nat} {es : Array MapEntry} {e : MapEntry} (w : World) (hu : P.underlying ty = some (.map kt et)) (hb : w.heap[b]? = some (.map es cl)) (hc : ∀ em, (Instr.checkKey em 10000 kt kvl).run P w = .ok () w) (hf : (Instr.findKey kt kvl es.toList).run P w = .ok (some (j, u)) w)
    (he : es[j]? = some e) (hk : e.key = kvl) (hst : (Instr.keyThatStays kvl kvl).run P w = .ok kvl w) :
    (Instr.mapUpdate ty (.map (some b)) kvl v).run P w = .ok () { w with heap := w.heap.setIfInBounds b (.map (es.modify j fun e => { e with key := kvl, val := v }) cl) } := by
  unfold Instr.mapUpdate
  simp [Go.run_underlying hu, MapKept.run_getObj_map hb, hc, hf, he, hk, hst, MapKept.run_setObj_map _ hb, Result.andThen]

theorem elem_VR (hE : EnvOk E) {vc : S.K} {y : TV S} {d : S.El vc} {B : Base} {w : World} {φ : Phi} {M : Mem} {o' : Nat → Option (Obj S)} {v : Value} {vag : Bool} (hd : elem E ob vc y = some d) (hag : aggV y = vag) (hm : RelW E B o' w φ M) (hv : VR E φ M y v)
    (hr : ∀ nm ∈ (cellsOf y).flatMap rowName, ∀ c xs m, ob nm = some (.row c xs m) → ∃ m', m' ≠ .own ∧ (m = .app → m' = .app) ∧ o' nm = some (.row c xs m')) : ∃ tv, takeCells vag (E.sz vc) 0 (E.enc vc d) = some tv ∧ VR E (fun _ => none) M tv v := by
  unfold elem at hd
  obtain ⟨cs, h1, h2⟩ := Option.bind_eq_some_iff.1 hd
  obtain ⟨h3, h4⟩ := mapM_get h1
  refine dec_VR hE h2 ?_
  cases vag with
  | true =>
    simp only [if_true]
    cases y <;> simp [aggV] at hag
    rename_i ys
    obtain ⟨vs, rfl, hl, hc⟩ := hv.agg_inv
    simp only [cellsOf] at h3 h4 hr
    refine ⟨vs, rfl, by omega, fun i tv u hi hu => ?_⟩
    obtain ⟨x, hx⟩ : ∃ x, ys[i]? = some x := ⟨_, List.getElem?_eq_getElem (by rw [h3]; exact (List.getElem?_eq_some_iff.1 hi).1)⟩
    obtain ⟨z, hz, hp⟩ := h4 i x hx
    rw [hi] at hz; cases hz
    exact pureOf_CR hm hp (fun nm hn c xs m ho => hr nm (List.mem_flatMap.2 ⟨x, List.mem_of_getElem? hx, hn⟩) c xs m ho) hE.toEncOk (hc i x u hx hu)
  | false =>
    simp only [Bool.false_eq_true, if_false]
    have hcs : cellsOf y = [y] := by cases y <;> first | rfl | (simp [aggV] at hag)
    rw [hcs] at h3 h4 hr
    obtain ⟨z, hz, hp⟩ := h4 0 y rfl
    have : cs = [z] := by
      match cs, h3 with
      | [c], _ => simp at hz; rw [hz]
    exact ⟨z, this, pureOf_CR hm hp (fun nm hn c xs m ho => hr nm (by simp [hn]) c xs m ho) hE.toEncOk hv⟩

theorem ok_update (hE : EnvOk E) {ty kt et : TypeId} {m x y : Operand} (ho : o.op = .mapUpdate ty m x y ∨ o.op = .insert ty m x y) (hu : E.P.underlying ty = some (.map kt et)) (h : updateEval E ob base kt (ev t m) (ev t x) (ev t y) k = some r) : ∃ e, k e = some r ∧ OpOK E o t ob base e := by
  unfold updateEval at h
  split at h
  · rename_i nm hmt
    split at h
    · rename_i ag sh vag vc L ex cl hob
      split at h
      · rename_i q d hq hd
        split at h
        · rename_i hchk
          obtain ⟨hkt, hva⟩ := hchk
          have law := hE.keys kt ag sh hkt
          refine ⟨_, h, ?_⟩
          have hops : ∀ z, z = m ∨ z = x ∨ z = y → z ∈ o.op.operands := by
            intro z hz
            rcases ho with ho | ho <;> rw [ho] <;> simp [Op.operands] <;> exact hz
          refine ⟨Nat.le_refl _, fun p hp => ?_, fun n h1 h2 => ?_, ?_⟩
          · simp only [List.mem_append, List.mem_singleton] at hp
            rcases hp with hp | rfl
            · obtain ⟨h1, c', xs', _, h2⟩ := freezes_mem hp
              exact .inr ⟨by simp only [List.mem_cons]; exact .inr h1, by simp [h2]⟩
            · exact .inr ⟨by simp, by simp [hob]⟩
          · simp only at h2; omega
          · intro B nt t' ob' a w φ M Q hdd hev hrd hfr hB hrel
            have hm1 := hev m (hops m (.inl rfl))
            have hx1 := hev x (hops x (.inr (.inl rfl)))
            have hy1 := hev y (hops y (.inr (.inr rfl)))
            rw [hmt] at hm1
            obtain ⟨g, hg, em1⟩ := hm1.map_inv
            obtain ⟨e1, e2⟩ := keyIn_VR hq hx1
            have hag : ∀ n ∈ (cellsOf (ev t y)).flatMap rowName, ob' n = ob n := fun n hn => hrd n (by simp only [List.mem_cons]; exact .inr hn)
            obtain ⟨M1, hM1, hW1⟩ := hrel.mem.freezeList hE.toEncOk (freezes ob ((cellsOf (ev t y)).flatMap rowName)) _ M (fun p hp => by
              obtain ⟨h1, c', xs', h2, h3⟩ := freezes_mem hp
              exact ⟨c', xs', h2, .inl (by rw [hag _ h1]; exact h3)⟩) (fun p hp q hq e => freezes_det p hp q hq e)
            have hob1 : setAll ob' (freezes ob ((cellsOf (ev t y)).flatMap rowName)) nm = some (.mapo ag sh vag vc L ex cl) := by
              rw [setAll_not _ _ ?_, hrd nm (by simp)]
              · exact hob
              · intro hc
                simp only [List.mem_map] at hc
                obtain ⟨p, hp, e⟩ := hc
                obtain ⟨_, c', xs', _, h3⟩ := freezes_mem hp
                rw [e, hob] at h3; cases h3
            have hval := elem_VR hE hd hva hW1 (hy1.mono (Phi.le_refl _) hM1) (fun nm' hn c xs mm hm' => freezes_after hn hm' (hag _ hn))
            obtain ⟨g', hg', es, cl', hb, hmi⟩ := hW1.objs nm _ hob1
            rw [hg] at hg'; cases hg'
            obtain ⟨L', l1, l2, l3, l4, l5, l6, l7, l8, l9⟩ := hmi.find hE hkt e2 w
            obtain ⟨u1, u2⟩ := mapIs_upd (d := d) (v := a.eval y) e2 l1 l2 l3 l4 l5 l6 l7 hval l8
            obtain ⟨dst, op', ty', pos, after, guard⟩ := o
            have fin : ∀ {es2 : Array MapEntry} {cl2 : Nat}, (Instr.mapUpdate ty (.map (some g.b)) (keyVal ag q) (a.eval y)).run E.P w = .ok () { w with heap := w.heap.setIfInBounds g.b (.map es2 cl2) } →
                MapIs E M1 ag sh vag vc (updM q d cl L) ex (if (findM q L).isSome = true then cl else cl + 1) es2 cl2 →
                (⟨dst, op', ty', pos, after, guard⟩ : Oper).upon E.P a (fun a' w' => ∃ φ' M', Rel E B nt (putDst t' dst .undef) (setAll ob' (freezes ob ((cellsOf (ev t y)).flatMap rowName) ++ [(nm, .mapo ag sh vag vc (updM q d cl L) ex (if (findM q L).isSome = true then cl else cl + 1))])) a' w' φ' M') Q ((execOp a.eval ⟨dst, op', ty', pos, after, guard⟩).run E.P w) := by
              intro es2 cl2 hrun hmi2
              refine upon_of_skip (w' := { w with heap := w.heap.setIfInBounds g.b (.map es2 cl2) }) ?_ ⟨φ, M1, hrel.put hdd (Phi.le_refl _) hM1 (.pure .undef) ?_⟩
              · rcases ho with ho | ho <;> (simp only at ho; subst ho; refine run_skip ?_; rw [em1, e1]; exact hrun)
              · rw [setAll_append, setAll_one]
                exact hW1.setMap hE.toEncOk hg hob1 hmi2
            rcases l9 with ⟨f1, f2⟩ | ⟨j, tt, e, f1, f2, f3, f4, f5, f6, f7, _⟩
            · exact fin (update_new w hu hb (fun em => law.check w em q e2) f1) (u1 f2)
            · exact fin (update_old w hu hb (fun em => law.check w em q e2) f1 f3 (by rw [f4.2.1, f5]) (law.stays w q e2)) (u2 j tt e f2 f3 f5 f6 f7)
        · cases h
      · cases h
    · cases h
  · cases h

def erased (z : Option (Nat × Value)) (es : Array MapEntry) : Array MapEntry := match z with
  | some (i, _) => es.eraseIdxIfInBounds i
  | none => es
theorem delete_run {P : Program} {ty kt et t1 : TypeId} {tys : Array TypeId} {args : Array Value} {kvl : Value} {b cl : Nat} {es : Array MapEntry} (w : World) (ha : args.toList = [.map (some b), kvl]) (ht : tys[0]? = some ty) (hu : P.underlying ty = some (.map kt et)) (hb : w.heap[b]? = some (.map es cl)) (hc : ∀ em, (Instr.checkKey em 10000 kt kvl).run P w = .ok () w) {x : Option (Nat × Value)} (hf : (Instr.findKey kt kvl es.toList).run P w = .ok x w) :
    (Builtin.delete_ tys t1 args).run P w = .ok (.tuple #[]) { w with heap := w.heap.setIfInBounds b (.map (erased x es) cl) } := by
  have h0 : args[0]? = some (.map (some b)) := by rw [← Array.getElem?_toList, ha]; rfl
  have h1 : args[1]? = some kvl := by rw [← Array.getElem?_toList, ha]; rfl
  unfold Builtin.delete_
  rw [ht, h0, h1]
  cases x with
  | none => simp [Go.run_underlying hu, MapKept.run_getObj_map hb, hc, hf, MapKept.run_setObj_map _ hb, Result.andThen, erased]
  | some p => obtain ⟨i, v⟩ := p; simp [Go.run_underlying hu, MapKept.run_getObj_map hb, hc, hf, MapKept.run_setObj_map _ hb, Result.andThen, erased]

theorem bind_under {P : Program} {x : Option TypeId} {d : TypeDesc} (h : x.bind P.underlying = some d) : ∃ ty, x = some ty ∧ P.underlying ty = some d := by
  cases x with
  | none => cases h
  | some ty => exact ⟨ty, rfl, h⟩

theorem ok_mapLen {x : Operand} {args : Array Operand} {ts : Array TypeId} {nm : Nat} {kt et : TypeId} {ag : Bool} {sh : List ScK} {vag : Bool} {vc : S.K} {L : List (List Sc × S.El vc × Nat)} {ex : Bool} {cl : Nat} (ho : o.op = .call { callee := .builtin .len, args, argTypes := ts }) (ha : args.toList = [x]) (hx : ev t x = .map nm)
    (hu : (ts[0]?).bind E.P.underlying = some (.map kt et)) (hob : ob nm = some (.mapo ag sh vag vc L ex cl)) : OpOK E o t ob base ⟨.int .i64 L.length, [nm], [], base⟩ := by
  refine OpOK.value fun B nt t' ob' a w φ M hv hrd hm => ?_
  have hargs : args = #[x] := by rw [← Array.toArray_toList (xs := args), ha]
  subst hargs
  have h2 := hv x (by rw [ho]; simp [Op.operands, Call.operands])
  rw [hx] at h2
  obtain ⟨g, hg, e⟩ := h2.map_inv
  obtain ⟨g', hg', es, cl', hb, L', l1, _, _, l4, _⟩ := hm.objs nm _ (by rw [hrd nm (by simp)]; exact hob)
  rw [hg] at hg'; cases hg'
  obtain ⟨ty, ht, hu'⟩ := bind_under hu
  have hsz : es.size = L.length := by
    have := l4.length_eq
    simp at this
    omega
  obtain ⟨dst, op', ty', pos, after, guard⟩ := o
  subst ho
  refine ⟨.int .i64 L.length, ?_, .pure (.int _ _)⟩
  rw [run_builtin, show Array.map a.eval #[x] = #[a.eval x] by simp, e]
  refine run_value (s := Builtin.len_ ts ty' #[.map (some g.b)]) ?_
  unfold Builtin.len_
  rw [ht]
  simp [Go.run_underlying hu', MapKept.run_getObj_map hb, Result.andThen, hsz, goInt]

theorem ok_delete (hE : EnvOk E) {x y : Operand} {args : Array Operand} {ts : Array TypeId} {kt et : TypeId} (ho : o.op = .call { callee := .builtin .delete, args, argTypes := ts }) (ha : args.toList = [x, y])
    (hu : (ts[0]?).bind E.P.underlying = some (.map kt et)) (h : deleteEval E ob base kt (ev t x) (ev t y) k = some r) : ∃ e, k e = some r ∧ OpOK E o t ob base e := by
  unfold deleteEval at h
  split at h
  · rename_i nm hx
    split at h
    · rename_i ag sh vag vc L ex cl hob
      split at h
      · rename_i q hq
        split at h
        · rename_i hkt
          have law := hE.keys kt ag sh hkt
          obtain ⟨ty, ht, hu'⟩ := bind_under hu
          refine ⟨_, h, Nat.le_refl _, fun p hp => ?_, fun n h1 h2 => ?_, ?_⟩
          · simp only [List.mem_singleton] at hp; subst hp
            exact .inr ⟨by simp, by simp [hob]⟩
          · simp only at h2; omega
          · intro B nt t' ob' a w φ M Q hdd hev hrd hfr hB hrel
            have hargs : args = #[x, y] := by rw [← Array.toArray_toList (xs := args), ha]
            subst hargs
            have hx1 := hev x (by rw [ho]; simp [Op.operands, Call.operands])
            have hy1 := hev y (by rw [ho]; simp [Op.operands, Call.operands])
            rw [hx] at hx1
            obtain ⟨g, hg, em1⟩ := hx1.map_inv
            obtain ⟨e1, e2⟩ := keyIn_VR hq hy1
            have hob1 : ob' nm = some (.mapo ag sh vag vc L ex cl) := by rw [hrd nm (by simp)]; exact hob
            obtain ⟨g', hg', es, cl', hb, hmi⟩ := hrel.mem.objs nm _ hob1
            rw [hg] at hg'; cases hg'
            obtain ⟨L', l1, l2, l3, l4, l5, l6, l7, l8, l9⟩ := hmi.find hE hkt e2 w
            obtain ⟨dst, op', ty', pos, after, guard⟩ := o
            subst ho
            have fin : ∀ {z : Option (Nat × Value)}, (Instr.findKey kt (keyVal ag q) es.toList).run E.P w = .ok z w → MapIs E M ag sh vag vc (delM q L) ex cl (erased z es) cl' → _ :=
              fun {z} hf hmi2 => upon_of_value (P := E.P) (o := ⟨dst, .call { callee := .builtin .delete, args := #[x, y], argTypes := ts }, ty', pos, after, guard⟩) (a := a) (next := fun a' w' => ∃ φ' M', Rel E B nt (putDst t' dst (.tup [])) (setAll ob' [(nm, .mapo ag sh vag vc (delM q L) ex cl)]) a' w' φ' M') (Q := Q)
                (r := (execOp a.eval ⟨dst, .call { callee := .builtin .delete, args := #[x, y], argTypes := ts }, ty', pos, after, guard⟩).run E.P w) (v := .tuple #[]) (w' := { w with heap := w.heap.setIfInBounds g.b (.map (erased z es) cl') }) (by
                  rw [run_builtin, show Array.map a.eval #[x, y] = #[a.eval x, a.eval y] by simp]
                  refine run_value (s := Builtin.delete_ ts ty' #[a.eval x, a.eval y]) ?_
                  exact delete_run (args := #[a.eval x, a.eval y]) w (by rw [em1, e1]) ht hu' hb (fun em => law.check w em q e2) hf)
                ⟨φ, M, hrel.put hdd (Phi.le_refl _) (Mem.le_refl _) (.tup rfl (fun i tv v h => by simp at h)) (by
                  rw [setAll_one]
                  exact hrel.mem.setMap hE.toEncOk hg hob1 hmi2)⟩
            rcases l9 with ⟨f1, f2⟩ | ⟨j, tt, e, f1, f2, f3, f4, f5, f6, _, f8⟩
            · exact fin f1 (mapIs_del l1 l2 l3 l4 l5 l6 l7 (.inl ⟨f2, rfl⟩))
            · exact fin f1 (mapIs_del l1 l2 l3 l4 l5 l6 l7 (.inr ⟨j, (Array.getElem?_eq_some_iff.1 f3).1, f8, rfl⟩))
        · cases h
      · cases h
    · cases h
  · cases h

/-! ranges: the iterator, and the entry at which it stands -/
theorem RelW.newIter (hE : EncOk E) {B : Base} {o' : Nat → Option (Obj S)} {w : World} {φ : Phi} {M : Mem} (h : RelW E B o' w φ M) {nm mp : Nat} {gm : GI} (hn : o' nm = none) (hB : B.m ≤ nm) (hm : φ mp = some gm) (since : Nat) (seen : List Nat) (stepped : Nat) :
    RelW E B (setF o' nm (some (.iter mp since seen stepped))) { w with heap := w.heap.push (.mapIter (some gm.b) since seen.reverse.toArray stepped) } (setF φ nm (some ⟨w.heap.size, 0, 0, 0, fun _ => false⟩)) M ∧ φ.le (setF φ nm (some ⟨w.heap.size, 0, 0, 0, fun _ => false⟩)) := by
  have hle : φ.le (setF φ nm (some ⟨w.heap.size, 0, 0, 0, fun _ => false⟩)) := Phi.le_of <| by
    intro n g hg
    by_cases e : n = nm
    · subst e; rw [h.fresh n hn] at hg; cases hg
    · rw [setF_ne _ _ e]; exact hg
  have hself : setF φ nm (some (⟨w.heap.size, 0, 0, 0, fun _ => false⟩ : GI)) nm = some ⟨w.heap.size, 0, 0, 0, fun _ => false⟩ := setF_self _ _ _
  refine ⟨h.step hE (· = nm) (fun _ => False) hle (Mem.le_refl _) (by simp) rfl rfl rfl (fun b hb _ => ?_) (fun b hb => hb.elim) (fun b off hd => absurd rfl hd)
    (fun b off v h1 h2 => by rw [h1] at h2; cases h2) (fun n' hn' => ⟨setF_ne _ _ hn', setF_ne _ _ hn'⟩) ?_ ?_ ?_ ?_ (fun n' hn' => setF_ne _ _ (by omega)), hle⟩
  · show (w.heap.push _)[b]? = _
    rw [Array.getElem?_push, if_neg (by omega)]
  · rintro n' y rfl hy
    rw [setF_self] at hy; cases hy
    obtain ⟨F, hm2⟩ := hle _ _ hm
    exact ⟨_, { gm with F := F }, hself, hm2, rfl, by simp⟩
  · rintro n' rfl hy
    rw [setF_self] at hy; cases hy
  · rintro n' y b f rfl hy hcl
    rw [setF_self] at hy; cases hy
    obtain ⟨rfl, rfl⟩ := claim_iter' hself _ _ hcl
    refine ⟨by simp, .inl (Nat.le_refl _), fun off _ => ?_⟩
    cases hm : M w.heap.size off with
    | none => rfl
    | some v => have := size_of_cell (h.mval _ _ _ hm); omega
  · rintro n1 n2 _ _ _ _ _ rfl rfl _ _ _ _; rfl

theorem ok_range (hE : EnvOk E) {ty kt et : TypeId} {m : Operand} {nm : Nat} {ag : Bool} {sh : List ScK} {vag : Bool} {vc : S.K} {L : List (List Sc × S.El vc × Nat)} {cl : Nat} (ho : o.op = .range ty m) (hu : E.P.underlying ty = some (.map kt et)) (hm : ev t m = .map nm) (hob : ob nm = some (.mapo ag sh vag vc L true cl)) :
    OpOK E o t ob base ⟨.ptr base 0 0, [nm], [(base, .iter nm cl [] cl)], base + 1⟩ := by
  refine ⟨by simp, fun p hp => ?_, fun n h1 h2 => ?_, ?_⟩
  · simp only [List.mem_singleton] at hp; subst hp; exact .inl ⟨Nat.le_refl _, Nat.lt_succ_self _⟩
  · simp only at h2; simp; omega
  · intro B nt t' ob' a w φ M Q hd hev hrd hfr hB hrel
    have hnone : ob' base = none := hfr base (Nat.le_refl _) (Nat.lt_succ_self _)
    have hm1 := hev m (by rw [ho]; simp [Op.operands])
    rw [hm] at hm1
    obtain ⟨g, hg, em1⟩ := hm1.map_inv
    have hob1 : ob' nm = some (.mapo ag sh vag vc L true cl) := by rw [hrd nm (by simp)]; exact hob
    obtain ⟨g', hg', es, cl', hb, L', _, _, l3, _⟩ := hrel.mem.objs nm _ hob1
    rw [hg] at hg'; cases hg'
    obtain ⟨rfl, rfl⟩ := l3 rfl
    obtain ⟨h1, h2⟩ := hrel.mem.newIter hE.toEncOk hnone hB hg cl' [] cl'
    obtain ⟨dst, op', ty', pos, after, guard⟩ := o
    subst ho
    refine upon_of_value (v := .pointer (some (at_ w.heap.size 0))) (w' := { w with heap := w.heap.push (.mapIter (some g.b) cl' #[] cl') }) (run_value ?_) ⟨_, M, hrel.put hd h2 (Mem.le_refl _) ?_ h1⟩
    · rw [em1]
      unfold Instr.range
      simp [Go.run_underlying hu, MapKept.run_getObj_map hb, Result.andThen, at_]
    · have := VR.ptr (E := E) (φ := setF φ base (some ⟨w.heap.size, 0, 0, 0, fun _ => false⟩)) (M := M) (nm := base) (i := 0) (k := 0) (setF_self _ _ _)
      simpa using this

theorem findB_spec {α : Type} {b : Nat} : ∀ {L : List (List Sc × α × Nat)} {t : List Sc × α × Nat}, findB b L = some t → ∃ j, L[j]? = some t ∧ t.2.2 = b ∧ ∀ (i : Nat) t', i < j → L[i]? = some t' → t'.2.2 ≠ b
  | [], t, h => by cases h
  | e :: r, t, h => by
    simp only [findB] at h
    split at h
    · rename_i hb
      cases h
      exact ⟨0, rfl, hb, fun i t' hi => absurd hi (Nat.not_lt_zero _)⟩
    · rename_i hb
      obtain ⟨j, h1, h2, h3⟩ := findB_spec h
      refine ⟨j + 1, by simpa using h1, h2, fun i t' hi ht => ?_⟩
      cases i with
      | zero => simp at ht; subst ht; exact hb
      | succ i => exact h3 i t' (by omega) (by simpa using ht)
theorem find_born {es : List MapEntry} {stamp : Nat} : ∀ {j : Nat} {e : MapEntry}, es[j]? = some e → e.born = stamp → (∀ (i : Nat) e', i < j → es[i]? = some e' → e'.born ≠ stamp) → es.find? (fun x => x.born == stamp) = some e := by
  induction es with
  | nil => intro j e h; simp at h
  | cons x r ih =>
    intro j e h hb hall
    cases j with
    | zero => simp at h; subst h; simp [hb]
    | succ j =>
      have := hall 0 x (Nat.succ_pos _) rfl
      rw [List.find?_cons_of_neg (by simpa using this)]
      exact ih (by simpa using h) hb (fun i e' hi he => hall (i + 1) e' (by omega) (by simpa using he))

theorem keyCs_eq : ∀ {sh : List ScK} {k : List Sc}, shaped sh k = true → (keyCs sh k : List (TV S)) = k.map scTV
  | [], [], _ => rfl
  | [], _ :: _, h => by simp [shaped] at h
  | a :: r, [], h => by simp [shaped] at h
  | a :: r, x :: k, h => by
    simp only [shaped, List.map_cons, List.cons.injEq, decide_eq_true_eq] at h
    obtain ⟨h1, h2⟩ := h
    have ih := keyCs_eq (sh := r) (k := k) (by simp only [shaped, decide_eq_true_eq]; exact h2)
    subst h1
    cases x <;> (simp only [Sc.kind, keyCs, List.tail_cons, List.map_cons, scTV, scI, scB, scS]; rw [ih])
theorem keyTVs_eq {ag : Bool} {sh : List ScK} {k : List Sc} (h : shaped sh k = true) : (keyTVs ag sh k : TV S) = keyTV ag k := by
  have h1 := keyCs_eq (S := S) h
  unfold keyTVs keyTV
  cases ag with
  | true => rw [if_pos rfl, if_pos rfl, h1]
  | false =>
    rw [if_neg (by simp), if_neg (by simp)]
    simp only [shaped, decide_eq_true_eq] at h
    subst h
    match k with
    | [] => rfl
    | [x] => cases x <;> rfl
    | x :: y :: r => cases x <;> rfl
theorem ok_entry {it : Operand} {nm mp since stepped stamp : Nat} {seen : List Nat} {ag : Bool} {sh : List ScK} {vag : Bool} {vc : S.K} {L : List (List Sc × S.El vc × Nat)} {cl : Nat} {e : List Sc × S.El vc × Nat} {v : TV S} (ho : o.op = .entry it) (hi : ev t it = .ptr nm 0 0) (hob : ob nm = some (.iter mp since seen stepped))
    (hl : seen.head? = some stamp) (hmp : ob mp = some (.mapo ag sh vag vc L true cl)) (hcl : cl = stepped) (hf : findB stamp L = some e) (hv : takeCells vag (E.sz vc) 0 (E.enc vc e.2.1) = some v) : OpOK E o t ob base ⟨.tup [keyTVs ag sh e.1, v], [nm, mp], [], base⟩ := by
  refine OpOK.value fun B nt t' ob' a w φ M hev hrd hmem => ?_
  have h1 := hev it (by rw [ho]; simp [Op.operands])
  rw [hi] at h1
  obtain ⟨g, hg, e1⟩ := h1.ptr_inv
  obtain ⟨g', gm, hg', hgm, hs, hb⟩ := hmem.objs nm _ (by rw [hrd nm (by simp)]; exact hob)
  rw [hg] at hg'; cases hg'
  obtain ⟨g2, hg2, es, cl', hb2, L', l1, l2, l3, _⟩ := hmem.objs mp _ (by rw [hrd mp (by simp)]; exact hmp)
  rw [hgm] at hg2; cases hg2
  obtain ⟨rfl, rfl⟩ := l3 rfl
  obtain ⟨j, hj, hjb, hja⟩ := findB_spec hf
  have hjl : j < es.size := by rw [← l1]; exact (List.getElem?_eq_some_iff.1 hj).1
  have hej : es[j]? = some es[j] := Array.getElem?_eq_getElem hjl
  obtain ⟨k0, k1, k2, tv, k3, k4⟩ := l2 j e es[j] hj hej
  rw [hv] at k3; cases k3
  have hfind : es.toList.find? (fun x => x.born == stamp) = some es[j] := find_born (j := j) (by rw [Array.getElem?_toList]; exact hej) (by rw [k2, hjb]) (fun i e' hi' he' => by
    obtain ⟨t', ht'⟩ : ∃ t', L'[i]? = some t' := ⟨_, List.getElem?_eq_getElem (by have := (List.getElem?_eq_some_iff.1 hj).1; omega)⟩
    obtain ⟨_, _, q2, _⟩ := l2 i t' e' ht' (by simpa using he')
    rw [q2]; exact hja i t' hi' ht')
  obtain ⟨dst, op', ty', pos, after, guard⟩ := o
  subst ho
  refine ⟨.tuple #[es[j].key, es[j].val], run_value ?_, .tup rfl fun i tv' v' h1 h2 => ?_⟩
  · rw [e1, hs]
    unfold Instr.entry
    have hget : (getObj g.b).run E.P w = .ok (.mapIter (some gm.b) since seen.reverse.toArray stepped) w := by simp [getObj, Sem.run, hb]
    have hback : seen.reverse.toArray.back? = some stamp := by rw [List.back?_toArray, List.getLast?_reverse]; exact hl
    generalize seen.reverse.toArray = sa at hget hback
    simp [at_, hget, hback, MapKept.run_getObj_map hb2, hcl, Result.andThen, ← Array.find?_toList, hfind]
  · match i with
    | 0 => simp at h1 h2; subst h1; subst h2; rw [k1, keyTVs_eq k0]; exact keyTV_VR E φ M ag e.1
    | 1 => simp at h1 h2; subst h1; subst h2; exact k4.mono (fun _ _ h => by cases h) (Mem.le_refl _)
    | i + 2 => simp at h1

theorem run_nextMap {P : Program} (w : World) (b gm since last clock : Nat) (seen : Array Nat) (es : Array MapEntry) (ty : TypeId) (hb : w.heap[b]? = some (.mapIter (some gm) since seen last)) (hm : w.heap[gm]? = some (.map es clock))
    (hold : ∀ x ∈ es, x.born < since) (hchk : (!seen.isEmpty && !es.isEmpty && es.all (fun x => decide (x.born ≥ last))) = false) :
    ((es.filter fun e => !seen.contains e.born) = #[] ∧ (Instr.next (.pointer (some (at_ b 0))) false ty).run P w = .ok (.tuple #[.bool false]) w) ∨
    ∃ e ∈ es.filter fun e => !seen.contains e.born, ∃ w1 : World, (w1 = w ∨ w1 = w.drew) ∧ (Instr.next (.pointer (some (at_ b 0))) false ty).run P w = .ok (.tuple #[.bool true, e.key, e.val]) { w1 with heap := w1.heap.setIfInBounds b (.mapIter (some gm) since (seen.push e.born) clock) } := by
  have hget1 : (getObj b).run P w = .ok (.mapIter (some gm) since seen last) w := by simp [getObj, Sem.run, hb]
  have hget2 : (getObj gm).run P w = .ok (.map es clock) w := by simp [getObj, Sem.run, hm]
  have hmem : ∀ x ∈ es.filter (fun e => !seen.contains e.born), x.born < since := fun x hx => hold x (by simp at hx; exact hx.1)
  unfold Instr.next
  simp only [at_, run_bind, hget1, hget2, Result.andThen, hchk, Bool.false_eq_true, if_false]
  generalize es.filter (fun e => !seen.contains e.born) = L at hmem ⊢
  have e1 : L.filter (fun x => decide (x.born < since)) = L := Array.filter_eq_self.2 (fun x hx => by simpa using hmem x hx)
  have e2 : L.filter (fun x => decide (x.born ≥ since)) = #[] := by
    rw [Array.filter_eq_empty_iff]
    intro x hx
    have := hmem x hx
    simp
    omega
  simp only [e1, e2, Array.append_empty]
  by_cases h0 : L.size = 0
  · left
    have : L = #[] := Array.eq_empty_of_size_eq_zero h0
    subst this
    refine ⟨rfl, ?_⟩
    simp [choose, Sem.run, Question.forced]
  · right
    have hne : L.isEmpty = false := by simp [Array.isEmpty, h0]
    simp only [hne, Bool.false_eq_true, if_false, Array.empty_append, Array.size_map]
    have hch : ∃ (j : Nat) (w1 : World), j < L.size ∧ (w1 = w ∨ w1 = w.drew) ∧ (choose (Question.mapNext L.size)).run P w = .ok j w1 := by
      by_cases hf : L.size ≤ 1
      · exact ⟨0, w, by omega, .inl rfl, by simp [choose, Sem.run, Question.forced, hf]⟩
      · exact ⟨_, w.drew, Nat.mod_lt _ (by omega), .inr rfl, by
          simp only [choose, Sem.run, Question.forced, decide_eq_true_eq, hf, if_false, Question.cut]
          rfl⟩
    obtain ⟨j, w1, hj, hal, hrun⟩ := hch
    refine ⟨L[j], by simp, w1, hal, ?_⟩
    have hset : ∀ o' : Go.Obj, (setObj b o').run P w1 = .ok () { w1 with heap := w1.heap.setIfInBounds b o' } := by
      intro o'
      have hb1 : w1.heap[b]? = some (.mapIter (some gm) since seen last) := by rcases hal with rfl | rfl <;> exact hb
      simp [setObj, Sem.run, hb1]
    simp only [hrun, Array.getElem?_map, Array.getElem?_eq_getElem hj, Option.map_some, run_bind, hset, Result.andThen]
    rfl

theorem RelW.setIter (hE : EncOk E) {B : Base} {o : Nat → Option (Obj S)} {w : World} {φ : Phi} {M : Mem} (h : RelW E B o w φ M) {nm mp since stepped since' stepped' : Nat} {g gm : GI} {seen seen' : List Nat}
    (hg : φ nm = some g) (hgm : φ mp = some gm) (hs0 : g.s = 0) (hs : o nm = some (.iter mp since seen stepped)) :
    RelW E B (setF o nm (some (.iter mp since' seen' stepped'))) { w with heap := w.heap.setIfInBounds g.b (.mapIter (some gm.b) since' seen'.reverse.toArray stepped') } φ M := by
  have hlt := h.csz nm _ g.b 0 hs (claim_iter hg)
  refine h.step hE (· = nm) (· = g.b) (Phi.le_refl _) (Mem.le_refl _) (by simp) rfl rfl rfl (fun b _ hne => Array.getElem?_setIfInBounds_ne (Ne.symm hne)) ?_ (fun b off hd => absurd rfl hd)
    (fun b off v h1 h2 => by rw [h1] at h2; cases h2) (fun n' hn' => ⟨setF_ne _ _ hn', rfl⟩) ?_ ?_ ?_ ?_ (fun _ _ => rfl)
  · rintro b rfl
    exact ⟨nm, _, 0, rfl, hs, claim_iter hg, fun off ho => absurd ho (Nat.not_lt_zero _)⟩
  · rintro n' y rfl hy
    rw [setF_self] at hy; cases hy
    exact ⟨g, gm, hg, hgm, hs0, by simp [hlt]⟩
  · rintro n' rfl hy
    rw [setF_self] at hy; cases hy
  · rintro n' y b f rfl hy hcl
    rw [setF_self] at hy; cases hy
    obtain ⟨rfl, rfl⟩ := claim_iter' hg _ _ hcl
    exact ⟨by simpa using hlt, .inr ⟨n', _, 0, rfl, hs, claim_iter hg⟩, fun off ho => h.mdis n' _ g.b 0 off hs (claim_iter hg) ho⟩
  · rintro n1 n2 _ _ _ _ _ rfl rfl _ _ _ _; rfl


theorem ok_next (hE : EnvOk E) {it : Operand} {nm mp since stepped : Nat} {seen : List Nat} {ag : Bool} {sh : List ScK} {vag : Bool} {vc : S.K} {L : List (List Sc × S.El vc × Nat)} {cl : Nat} (ho : o.op = .next it false) (hit : ev t it = .ptr nm 0 0) (hob : ob nm = some (.iter mp since seen stepped))
    (hmp : ob mp = some (.mapo ag sh vag vc L true cl)) (h : nextOne since seen stepped L (k ⟨.tup [.bool false], [nm, mp], [], base⟩) (fun e => k ⟨.tup [.bool true, .dead, .dead], [nm, mp], [(nm, .iter mp since (e.2.2 :: seen) cl)], base⟩) = some r) : ∃ e, k e = some r ∧ OpOK E o t ob base e := by
  unfold nextOne at h
  split at h
  rotate_left
  · cases h
  rename_i hc
  simp only [Bool.and_eq_true, Bool.or_eq_true, List.all_eq_true, List.any_eq_true, decide_eq_true_eq] at hc
  -- what the model's step does
  have step : ∀ (B : Base) (ob' : Nat → Option (Obj S)) (a : Act) (w : World) (φ : Phi) (M : Mem), (∀ x ∈ o.op.operands, VR E φ M (ev t x) (a.eval x)) → (∀ n ∈ [nm, mp], ob' n = ob n) → RelW E B ob' w φ M →
      ∃ g gm, φ nm = some g ∧ φ mp = some gm ∧ g.s = 0 ∧
      (((L.filter fun e => !seen.contains e.2.2) = [] ∧ (execOp a.eval o).run E.P w = .ok (.value (.tuple #[.bool false])) w) ∨
      ∃ t' ∈ L.filter fun e => !seen.contains e.2.2, ∃ kv vv : Value, ∃ w1 : World, (w1 = w ∨ w1 = w.drew) ∧ (execOp a.eval o).run E.P w = .ok (.value (.tuple #[.bool true, kv, vv])) { w1 with heap := w1.heap.setIfInBounds g.b (.mapIter (some gm.b) since (t'.2.2 :: seen).reverse.toArray cl) }) := by
    intro B ob' a w φ M hev hrd hmem
    have h1 := hev it (by rw [ho]; simp [Op.operands])
    rw [hit] at h1
    obtain ⟨g, hg, e1⟩ := h1.ptr_inv
    obtain ⟨g', gm, hg', hgm, hs0, hb⟩ := hmem.objs nm _ (by rw [hrd nm (by simp)]; exact hob)
    rw [hg] at hg'; cases hg'
    obtain ⟨g2, hg2, es, cl', hb2, L', l1, l2, l3, _⟩ := hmem.objs mp _ (by rw [hrd mp (by simp)]; exact hmp)
    rw [hgm] at hg2; cases hg2
    obtain ⟨rfl, rfl⟩ := l3 rfl
    rw [hs0] at e1
    simp only [Nat.zero_mul, Nat.zero_add] at e1
    have born : ∀ x ∈ es, ∃ t ∈ L', t.2.2 = x.born := by
      intro x hx
      obtain ⟨j, hj, rfl⟩ := Array.mem_iff_getElem.1 hx
      have hjl : j < L'.length := by rw [l1]; exact hj
      exact ⟨L'[j], List.getElem_mem _, (l2 j _ _ (List.getElem?_eq_getElem hjl) (Array.getElem?_eq_getElem hj)).2.2.1.symm⟩
    have born' : ∀ t ∈ L', ∃ x ∈ es, t.2.2 = x.born := by
      intro t ht
      obtain ⟨j, hj, rfl⟩ := List.mem_iff_getElem.1 ht
      have hjl : j < es.size := by rw [← l1]; exact hj
      exact ⟨es[j], Array.getElem_mem hjl, (l2 j _ _ (List.getElem?_eq_getElem hj) (Array.getElem?_eq_getElem hjl)).2.2.1.symm⟩
    have hold : ∀ x ∈ es, x.born < since := fun x hx => by
      obtain ⟨t, ht, e⟩ := born x hx
      rw [← e]; exact hc.2 t ht
    have hchk : (!seen.reverse.toArray.isEmpty && !es.isEmpty && es.all (fun x => decide (x.born ≥ stepped))) = false := by
      rcases hc.1 with h1 | h1 | ⟨t, ht, h1⟩
      · have : seen = [] := by simpa using h1
        subst this; rfl
      · have hl0 : L' = [] := by simpa using h1
        have : es.size = 0 := by rw [← l1, hl0]; rfl
        have : es = #[] := Array.eq_empty_of_size_eq_zero this
        subst this; simp
      · obtain ⟨x, hx, e⟩ := born' t ht
        have : es.all (fun x => decide (x.born ≥ stepped)) = false := by
          rw [Bool.eq_false_iff]
          intro hall
          rw [Array.all_eq_true_iff_forall_mem] at hall
          have := hall x hx
          simp at this
          omega
        rw [this]; simp
    refine ⟨g, gm, hg, hgm, hs0, ?_⟩
    obtain ⟨dst, op', ty', pos, after, guard⟩ := o
    subst ho
    rcases run_nextMap (P := E.P) w g.b gm.b since stepped cl' seen.reverse.toArray es ty' hb hb2 hold hchk with ⟨hnil, hrun⟩ | ⟨x, hx, w1, hw1, hrun⟩
    · left
      refine ⟨?_, run_value (by rw [e1]; exact hrun)⟩
      rw [List.filter_eq_nil_iff]
      intro t ht hcon
      obtain ⟨y, hy, e⟩ := born' t ht
      have : y ∈ es.filter fun e => !seen.reverse.toArray.contains e.born := by
        rw [Array.mem_filter]
        refine ⟨hy, ?_⟩
        rw [← e]; simpa using hcon
      rw [hnil] at this; simp at this
    · right
      rw [Array.mem_filter] at hx
      obtain ⟨t, ht, ebt⟩ := born x hx.1
      refine ⟨t, List.mem_filter.2 ⟨ht, by rw [ebt]; simpa using hx.2⟩, x.key, x.val, w1, hw1, run_value (by rw [e1, hrun, List.reverse_cons, ebt]; simp)⟩
  split at h
  · rename_i hnil
    refine ⟨_, h, Nat.le_refl _, fun p hp => by simp at hp, fun n h1 h2 => by simp only at h2; omega, ?_⟩
    intro B nt t' ob' a w φ M Q hdd hev hrd hfr hB hrel
    obtain ⟨g, gm, hg, hgm, hs0, hcase⟩ := step B ob' a w φ M hev hrd hrel.mem
    rcases hcase with ⟨_, hrun⟩ | ⟨t1, ht1, _⟩
    · refine upon_of_value hrun ⟨φ, M, hrel.put hdd (Phi.le_refl _) (Mem.le_refl _) ?_ hrel.mem⟩
      exact .tup rfl fun i tv v h1 h2 => by
        match i with
        | 0 => simp at h1 h2; subst h1; subst h2; exact .pure (.bool _)
        | i + 1 => simp at h1
    · rw [hnil] at ht1; cases ht1
  · rename_i x hone
    refine ⟨_, h, Nat.le_refl _, fun p hp => ?_, fun n h1 h2 => by simp only at h2; omega, ?_⟩
    · simp only [List.mem_singleton] at hp; subst hp
      exact .inr ⟨by simp, by simp [hob]⟩
    · intro B nt t' ob' a w φ M Q hdd hev hrd hfr hB hrel
      obtain ⟨g, gm, hg, hgm, hs0, hcase⟩ := step B ob' a w φ M hev hrd hrel.mem
      rcases hcase with ⟨hnil, _⟩ | ⟨t1, ht1, kv, vv, w1, hw1, hrun⟩
      · rw [hone] at hnil; cases hnil
      · rw [hone] at ht1
        have : t1 = x := by simpa using ht1
        subst this
        have hmem1 : RelW E B ob' w1 φ M := by
          rcases hw1 with rfl | rfl
          · exact hrel.mem
          · exact hrel.mem.drew
        refine upon_of_value hrun ⟨φ, M, hrel.put hdd (Phi.le_refl _) (Mem.le_refl _) ?_ (by
          rw [setAll_one]
          exact hmem1.setIter hE.toEncOk hg hgm hs0 (by rw [hrd nm (by simp)]; exact hob))⟩
        exact .tup rfl fun i tv v h1 h2 => by
          match i with
          | 0 => simp at h1 h2; subst h1; subst h2; exact .pure (.bool _)
          | 1 => simp at h1; subst h1; exact .dead _
          | 2 => simp at h1; subst h1; exact .dead _
          | i + 3 => simp at h1
  · cases h

theorem run_indexArr {P : Program} {ty e : TypeId} {inf : TypeInfo} {L b off : Nat} {q : IntKind} {n : Int} (w : World) (hu : P.underlying ty = some (.array L e)) (hi : P.info? e = some inf) (h0 : 0 ≤ n) (h1 : n < L) :
    (Instr.indexAt ty (.pointer (some (at_ b off))) (.int q n)).run P w = .ok (.pointer (some (at_ b (off + n.toNat * inf.size)))) w := by
  unfold Instr.indexAt
  simp only [TE.run_bind, run_asIntOf, TE.run_underlying ty w hu, run_sureAddr, TE.run_pure, h0, h1, and_self, if_true, run_sizeOf e w hi, at_add]
theorem ok_indexArr {ty e : TypeId} {x y : Operand} {q : IntKind} {n : Int} {L : Nat} {inf : TypeInfo} {tv : TV S} (ho : o.op = .indexAddr ty x y) (hu : E.P.underlying ty = some (.array L e)) (hi : E.P.info? e = some inf) (hy : ev t y = .int q n) (h0 : 0 ≤ n) (h1 : n < L)
    (hx : (∃ nm i j, ev t x = .ptr nm i j ∧ tv = .ptr nm i (j + n.toNat * inf.size)) ∨ ∃ c z j, ev t x = .iptr c z j ∧ tv = .iptr c z (j + n.toNat * inf.size)) : OpOK E o t ob base ⟨tv, [], [], base⟩ := by
  refine OpOK.value fun B nt t' ob' a w φ M hv hrd hm => ?_
  have h2 := hv x (by rw [ho]; simp [Op.operands])
  have h3 := hv y (by rw [ho]; simp [Op.operands])
  rw [hy] at h3
  have e3 := h3.int
  obtain ⟨dst, op', ty', pos, after, guard⟩ := o
  subst ho
  rcases hx with ⟨nm, i, j, e1, rfl⟩ | ⟨c, z, j, e1, rfl⟩
  · rw [e1] at h2
    obtain ⟨g, hg, e2⟩ := h2.ptr_inv
    refine ⟨_, run_value (by rw [e2, e3]; exact run_indexArr w hu hi h0 h1), ?_⟩
    rw [Nat.add_assoc]
    exact .ptr hg
  · rw [e1] at h2
    obtain ⟨b, off, e2, hM⟩ := h2.iptr_inv
    refine ⟨_, run_value (by rw [e2, e3]; exact run_indexArr w hu hi h0 h1), ?_⟩
    rw [Nat.add_assoc]
    exact VR.iptr_mk b off rfl hM
end
end TE
