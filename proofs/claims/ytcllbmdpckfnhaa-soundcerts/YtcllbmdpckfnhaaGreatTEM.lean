/- TE: maps. -/
import Derived.Test.YtcllbmdpckfnhaaGreatTE14
import Derived.MapKept
namespace TE
open Go
variable {S : Sig} {E : Env S}
theorem Dg {α : Type} {R : (List Sc × α × Nat) → MapEntry → Prop} (q : List Sc) : ∀ (L : List (List Sc × α × Nat)) (es : List MapEntry) (i0 : Nat), L.length = es.length → (∀ (i : Nat) t e, L[i]? = some t → es[i]? = some e → R t e) →
  (findAt q (L.map (·.1)) es i0 = none ∧ gf q L = none) ∨ ∃ j t e, findAt q (L.map (·.1)) es i0 = some (i0 + j, e.val) ∧ L[j]? = some t ∧ es[j]? = some e ∧ R t e ∧ t.1 = q ∧ gf q L = some t.2.1 ∧
   (∀ y cl, sX q y cl L = L.set j (q, y, t.2.2)) ∧ vk q L = L.eraseIdx j
 | [], [], i0, _, _ => .inl ⟨rfl, rfl⟩
 | [], _ :: _, _, h, _ => by simp at h
 | _ :: _, [], _, h, _ => by simp at h
 | t :: L, e :: es, i0, hl, hR => by
  simp only [List.map_cons, findAt, gf]
  by_cases ht : t.1 = q
  ·rw [if_pos ht, if_pos ht]
   exact .inr ⟨0, t, e, rfl, rfl, rfl, hR 0 t e rfl rfl, ht, rfl, fun y cl => by simp [sX, ht], by simp [vk, ht]⟩
  ·rw [if_neg ht, if_neg ht]
   rcases Dg q L es (i0 + 1) (by simpa using hl) (fun i t e h1 h2 => hR (i + 1) t e (by simpa using h1) (by simpa using h2)) with h | ⟨j, t', e', h1, h2, h3, h4, h5, h6, h7, h8⟩
   ·exact .inl h
   ·refine .inr ⟨j + 1, t', e', by rw [h1]; congr 2; omega, by simpa using h2, by simpa using h3, h4, h5, h6, fun y cl => by simp [sX, ht, h7], by simp [vk, ht, h8]⟩
theorem yw {α : Type} {q : List Sc} {y : α} {cl : Nat} : ∀ {L : List (List Sc × α × Nat)}, gf q L = none → sX q y cl L = L ++ [(q, y, cl)]
 | [], _ => rfl
 | e :: r, h => by
  simp only [gf] at h
  split at h
  ·cases h
  ·rename_i hne
   simp only [sX, if_neg hne, yw h, List.cons_append]
theorem GR {α : Type} {q : List Sc} : ∀ {L : List (List Sc × α × Nat)}, gf q L = none → vk q L = L
 | [], _ => rfl
 | e :: r, h => by
  simp only [gf] at h
  split at h
  ·cases h
  ·rename_i hne
   simp only [vk, if_neg hne, GR h]
def kv {α : Type} (L : List (List Sc × α × Nat)) : List (List Sc × α) := L.map fun t => (t.1, t.2.1)
theorem qb {α : Type} (L : List (List Sc × α × Nat)) : (kv L).map (·.1) = L.map (·.1) := by simp [kv]
theorem yx {α : Type} {q : List Sc} {y : α} : ∀ {L : List (List Sc × α × Nat)}, (L.map (·.1)).Nodup → (gf q L = some y ↔ (q, y) ∈ kv L)
 | [], _ => by simp [gf, kv]
 | e :: r, h => by
  simp only [List.map_cons, List.nodup_cons] at h
  simp only [gf, kv, List.map_cons, List.mem_cons]
  by_cases he : e.1 = q
  ·rw [if_pos he]
   constructor
   ·intro h'; cases h'; left; rw [← he]
   ·rintro (h' | h')
    ·cases h'; rfl
    ·exfalso
     simp only [List.mem_map] at h'
     obtain ⟨t, ht, e'⟩ := h'
     cases e'
     exact h.1 (by rw [he]; exact List.mem_map.2 ⟨t, ht, rfl⟩)
  ·rw [if_neg he, yx h.2]
   constructor
   ·intro h'; exact .inr h'
   ·rintro (h' | h')
    ·cases h'; exact absurd rfl he
    ·exact h'
theorem LN {α : Type} {q : List Sc} {L L' : List (List Sc × α × Nat)} (hp : (kv L').Perm (kv L)) (h : (L.map (·.1)).Nodup) : gf q L' = gf q L := by
 have h' : (L'.map (·.1)).Nodup := by
  rw [← qb]; exact (hp.map _).nodup_iff.2 (by rw [qb]; exact h)
 cases hL : gf q L with
 | none =>
  cases hL' : gf q L' with
  | none => rfl
  | some y => rw [yx h', hp.mem_iff, ← yx h, hL] at hL'; cases hL'
 | some y => rw [yx h, ← hp.mem_iff, ← yx h'] at hL; exact hL
theorem DQ {α : Type} {q : List Sc} {y : α} {cl : Nat} : ∀ {L : List (List Sc × α × Nat)}, (L.map (·.1)).Nodup → (kv (sX q y cl L)).Perm ((q, y) :: (kv L).filter fun p => decide (p.1 ≠ q))
 | [], _ => by simp [sX, kv]
 | e :: r, h => by
  simp only [List.map_cons, List.nodup_cons] at h
  simp only [sX]
  by_cases he : e.1 = q
  ·rw [if_pos he]
   have : ∀ p ∈ kv r, decide (p.1 ≠ q) = true := by
    intro p hp
    simp only [kv, List.mem_map] at hp
    obtain ⟨t, ht, rfl⟩ := hp
    simp only [decide_eq_true_eq]
    intro e'
    exact h.1 (by rw [he, ← e']; exact List.mem_map.2 ⟨t, ht, rfl⟩)
   have hf : (kv (e :: r)).filter (fun p => decide (p.1 ≠ q)) = kv r := by
    simp only [kv, List.map_cons]
    rw [List.filter_cons_of_neg (by simp [he])]
    exact List.filter_eq_self.2 this
   rw [hf]; exact List.Perm.refl _
  ·rw [if_neg he]
   simp only [kv, List.map_cons]
   rw [List.filter_cons_of_pos (by simp [he])]
   exact ((DQ h.2).cons _).trans (List.Perm.swap _ _ _)
theorem DR {α : Type} {q : List Sc} : ∀ {L : List (List Sc × α × Nat)}, (L.map (·.1)).Nodup → kv (vk q L) = (kv L).filter fun p => decide (p.1 ≠ q)
 | [], _ => by simp [vk, kv]
 | e :: r, h => by
  simp only [List.map_cons, List.nodup_cons] at h
  simp only [vk]
  by_cases he : e.1 = q
  ·rw [if_pos he]
   have : ∀ p ∈ kv r, decide (p.1 ≠ q) = true := by
    intro p hp
    simp only [kv, List.mem_map] at hp
    obtain ⟨t, ht, rfl⟩ := hp
    simp only [decide_eq_true_eq]
    intro e'
    exact h.1 (by rw [he, ← e']; exact List.mem_map.2 ⟨t, ht, rfl⟩)
   simp only [kv, List.map_cons]
   rw [List.filter_cons_of_neg (by simp [he])]
   exact (List.filter_eq_self.2 this).symm
  ·rw [if_neg he]
   simp only [kv, List.map_cons]
   rw [List.filter_cons_of_pos (by simp [he])]
   exact congrArg _ (DR h.2)
theorem Fx {α : Type} {q : List Sc} {y : α} {cl : Nat} {L : List (List Sc × α × Nat)} (h : (L.map (·.1)).Nodup) : ((sX q y cl L).map (·.1)).Nodup := by
 rw [← qb]
 refine ((DQ h).map _).nodup_iff.2 ?_
 simp only [List.map_cons, List.nodup_cons]
 refine ⟨?_, ?_⟩
 ·intro hm
  obtain ⟨p, hp, e⟩ := List.mem_map.1 hm
  have := (List.mem_filter.1 hp).2
  simp at this
  exact this e
 ·have : ((kv L).map (·.1)).Nodup := by rw [qb]; exact h
  exact ((List.filter_sublist).map _).nodup this
theorem Fy {α : Type} {q : List Sc} {L : List (List Sc × α × Nat)} (h : (L.map (·.1)).Nodup) : ((vk q L).map (·.1)).Nodup := by
 rw [← qb, DR h]
 have : ((kv L).map (·.1)).Nodup := by rw [qb]; exact h
 exact ((List.filter_sublist).map _).nodup this
theorem Ii (E : Env S) (φ : Phi) (M : Mem) (x : Sc) : VR E φ M (zo x) (oW x) := by
 cases x with
 | bool b => exact .pure (.bool b)
 | int k n => exact .pure (.int k n)
 | str s => exact .pure (.str s)
theorem Fz (E : Env S) (φ : Phi) (M : Mem) (ag : Bool) (k : List Sc) : VR E φ M (mr ag k) (bn ag k) := by
 unfold mr bn
 cases ag with
 | true =>
  simp only [if_true]
  refine .agg (by simp) fun i tv v h1 h2 => ?_
  rw [List.getElem?_map] at h1
  obtain ⟨x, hx, rfl⟩ := Option.map_eq_some_iff.1 h1
  simp [hx] at h2
  subst h2
  exact Ii E φ M x
 | false =>
  simp only [Bool.false_eq_true, if_false]
  match k with
  | [x] => exact Ii E φ M x
  | [] => exact .pure .undef
  | _ :: _ :: _ => exact .pure .undef
theorem bA.setMap (hE : EncOk E) {B : fq} {o : Nat → Option (Obj S)} {w : World} {φ : Phi} {M : Mem} (h : bA E B o w φ M) {nm : Nat} {g : GI} {ag : Bool} {sh : List ScK} {vag : Bool} {vc : S.K} {L L2 : List (List Sc × S.El vc × Nat)} {ex ex2 : Bool} {cl cl2 cl0' : Nat} {es2 : Array MapEntry}
  (hg : φ nm = some g) (hs : o nm = some (.mapo ag sh vag vc L ex cl)) (hm : wK E M ag sh vag vc L2 ex2 cl2 es2 cl0') :
  bA E B (bM o nm (some (.mapo ag sh vag vc L2 ex2 cl2))) { w with heap := w.heap.setIfInBounds g.b (.map es2 cl0') } φ M := by
 have hlt := h.csz nm _ g.b 0 hs (jX hg)
 refine h.step hE (· = nm) (· = g.b) (Phi.le_refl _) (Mem.le_refl _) (by simp) rfl rfl rfl (fun b _ hne => Array.getElem?_setIfInBounds_ne (Ne.symm hne)) ?_ (fun b off hd => absurd rfl hd)
  (fun b off v h1 h2 => by rw [h1] at h2; cases h2) (fun n' hn' => ⟨aq _ _ hn', rfl⟩) ?_ ?_ ?_ ?_ (fun _ _ => rfl)
 ·rintro b rfl
  exact ⟨nm, _, 0, rfl, hs, jX hg, fun off ho => absurd ho (Nat.not_lt_zero _)⟩
 ·rintro n' y rfl hy
  rw [ab] at hy; cases hy
  exact ⟨g, hg, es2, cl0', by simp [hlt], hm⟩
 ·rintro n' rfl hy
  rw [ab] at hy; cases hy
 ·rintro n' y b f rfl hy hcl
  rw [ab] at hy; cases hy
  rw [jX hg] at hcl
  cases hcl
  exact ⟨by simpa using hlt, .inr ⟨n', _, 0, rfl, hs, jX hg⟩, fun off ho => h.mdis n' _ g.b 0 off hs (jX hg) ho⟩
 ·rintro n1 n2 _ _ _ _ _ rfl rfl _ _ _ _; rfl
theorem bA.newMap (hE : EncOk E) {B : fq} {o : Nat → Option (Obj S)} {w : World} {φ : Phi} {M : Mem} (h : bA E B o w φ M) {nm : Nat} (hn : o nm = none) (hB : B.m ≤ nm) (ag : Bool) (sh : List ScK) (vag : Bool) (vc : S.K) :
  bA E B (bM o nm (some (.mapo ag sh vag vc [] true 0))) { w with heap := w.heap.push (.map #[] 0) } (bM φ nm (some ⟨w.heap.size, 0, 0, 0⟩)) M ∧ φ.le (bM φ nm (some ⟨w.heap.size, 0, 0, 0⟩)) := by
 have hle : φ.le (bM φ nm (some ⟨w.heap.size, 0, 0, 0⟩)) := by
  intro n g hg
  by_cases e : n = nm
  ·subst e; rw [h.fresh n hn] at hg; cases hg
  ·rw [aq _ _ e]; exact hg
 have hself : bM φ nm (some (⟨w.heap.size, 0, 0, 0⟩ : GI)) nm = some ⟨w.heap.size, 0, 0, 0⟩ := ab _ _ _
 refine ⟨h.step hE (· = nm) (fun _ => False) hle (Mem.le_refl _) (by simp) rfl rfl rfl (fun b hb _ => ?_) (fun b hb => hb.elim) (fun b off hd => absurd rfl hd)
  (fun b off v h1 h2 => by rw [h1] at h2; cases h2) (fun n' hn' => ⟨aq _ _ hn', aq _ _ hn'⟩) ?_ ?_ ?_ ?_ (fun n' hn' => aq _ _ (by omega)), hle⟩
 ·show (w.heap.push _)[b]? = _
  rw [Array.getElem?_push, if_neg (by omega)]
 ·rintro n' y rfl hy
  rw [ab] at hy; cases hy
  exact ⟨_, hself, #[], 0, by simp, [], rfl, fun i t e ht => by simp at ht, fun _ => ⟨rfl, rfl⟩, List.Perm.refl _, by simp, by simp, by simp⟩
 ·rintro n' rfl hy
  rw [ab] at hy; cases hy
 ·rintro n' y b f rfl hy hcl
  rw [ab] at hy; cases hy
  rw [jX hself] at hcl
  cases hcl
  refine ⟨by simp, .inl (Nat.le_refl _), fun off _ => ?_⟩
  cases hm : M w.heap.size off with
  | none => rfl
  | some v => have := jW (h.mval _ _ _ hm); omega
 ·rintro n1 n2 _ _ _ _ _ rfl rfl _ _ _ _; rfl
theorem MH {φ : Phi} {M : Mem} {v : TV S} {x : Sc} {u : Value} (h : Qd v = some x) (hv : VR E φ M v u) : u = oW x := by
 cases v <;> simp only [Qd, Option.some.injEq] at h <;> first | (cases h; done) | (subst h; first | exact hv.bool | exact hv.int | exact hv.str)
theorem GS : ∀ {cs : List (TV S)} {l : List Sc}, Jz cs = some l → cs.length = l.length ∧ ∀ (i : Nat) v x, cs[i]? = some v → l[i]? = some x → Qd v = some x
 | [], l, h => by simp only [Jz, Option.some.injEq] at h; subst h; simp
 | v :: r, l, h => by
  simp only [Jz] at h
  split at h
  ·rename_i x l' h1 h2
   cases h
   obtain ⟨h3, h4⟩ := GS h2
   refine ⟨by simp [h3], fun i v' x' hv hx => ?_⟩
   cases i with
   | zero => simp at hv hx; subst hv; subst hx; exact h1
   | succ i => exact h4 i v' x' (by simpa using hv) (by simpa using hx)
  ·cases h
theorem BS {φ : Phi} {M : Mem} {ag : Bool} {sh : List ScK} {v : TV S} {q : List Sc} {u : Value} (h : JA ag sh v = some q) (hv : VR E φ M v u) : u = bn ag q ∧ shaped sh q = true := by
 unfold JA at h
 split at h
 ·rename_i cs
  obtain ⟨k, h1, h2⟩ := Option.bind_eq_some_iff.1 h
  split at h2
  ·rename_i hs
   cases h2
   refine ⟨?_, hs⟩
   obtain ⟨us, rfl, hl, hc⟩ := hv.agg_inv
   obtain ⟨h3, h4⟩ := GS h1
   simp only [bn, if_true]
   congr 1
   apply Array.ext'
   apply List.ext_getElem?
   intro i
   by_cases hi : i < us.size
   ·have e1 : cs[i]? = some cs[i] := List.getElem?_eq_getElem (by omega)
    have e2 : q[i]? = some (q[i]'(by omega)) := List.getElem?_eq_getElem (by omega)
    have e3 : us[i]? = some us[i] := Array.getElem?_eq_getElem hi
    have := MH (h4 i _ _ e1 e2) (hc i _ _ e1 e3)
    rw [Array.getElem?_toList, e3, this]
    simp [e2]
   ·rw [List.getElem?_eq_none_iff.2 (by simp; omega), List.getElem?_eq_none_iff.2 (by simp; omega)]
  ·cases h2
 ·obtain ⟨x, h1, h2⟩ := Option.bind_eq_some_iff.1 h
  split at h2
  ·rename_i hs
   cases h2
   exact ⟨MH h1 hv, hs⟩
  ·cases h2
 ·cases h
section
variable {R : Type} {k : Eff S → Option R} {r : R} {t : Nat → TV S} {ob : Nat → Option (Obj S)} {base : Nat} {o : Oper}
theorem QK {c : S.K} (hE : EncOk E) (x : S.El c) : aI true (E.sz c) 0 (E.enc c x) = some (.agg (E.enc c x)) := by
 simp only [aI, if_true]
 rw [if_pos (by rw [hE.len]; omega), List.drop_zero, ← hE.len c x, List.take_length]
theorem QL (hE : eg E) {c : S.K} {cs : List (TV S)} {x : S.El c} {M : Mem} {vag : Bool} {u : Value} (hd : E.dec c cs = some x)
  (h : if vag = true then ∃ vs, u = .agg vs ∧ cs.length = vs.size ∧ ∀ (i : Nat) tv v, cs[i]? = some tv → vs[i]? = some v → CR E M tv v else ∃ tv, cs = [tv] ∧ CR E M tv u) :
  ∃ tv, aI vag (E.sz c) 0 (E.enc c x) = some tv ∧ VR E (fun _ => none) M tv u := by
 have hlen := hE.decLen c cs x hd
 have hel := hE.len c x
 cases vag with
 | true =>
  simp only [if_true] at h
  obtain ⟨vs, rfl, hl, hc⟩ := h
  refine ⟨_, QK hE.toEncOk x, .agg (by omega) fun i tv v hi hv => ?_⟩
  have hlt := (Array.getElem?_eq_some_iff.1 hv).1
  have hcs : cs[i]? = some cs[i] := List.getElem?_eq_getElem (by omega)
  obtain ⟨tv', h1, h2⟩ := hE.dec c cs x M i _ v hd hcs (hc i _ v hcs hv)
  rw [hi] at h1; cases h1
  exact .pure h2
 | false =>
  simp only [Bool.false_eq_true, if_false] at h
  obtain ⟨tv, rfl, hc⟩ := h
  obtain ⟨tv', h1, h2⟩ := hE.dec c [tv] x M 0 tv u hd rfl hc
  exact ⟨tv', by simpa [aI] using h1, .pure h2⟩
theorem FA {P : Program} {et : TypeId} {vag : Bool} {i : TypeInfo} {zv : Value} (hi : P.info? et = some i) (hz : i.zero = some zv) (h : yL P et = some vag) :
  if vag = true then ∃ vs, zv = .agg vs else zv.cells = #[zv] := by
 unfold yL at h
 rw [hi] at h
 simp only [hz] at h
 cases zv <;> simp at h <;> subst h <;> simp [Value.cells]
theorem MI (hE : eg E) {et : TypeId} {vc : S.K} {z : List (TV S)} {d : S.El vc} {vag : Bool} (M : Mem) (hz : vj E.P et = some z) (hal : z.all bb = true) (hs : yL E.P et = some vag) (hd : E.dec vc z = some d) :
  ∃ zv i, E.P.info? et = some i ∧ i.zero = some zv ∧ ∃ tv, aI vag (E.sz vc) 0 (E.enc vc d) = some tv ∧ VR E (fun _ => none) M tv zv := by
 obtain ⟨i, zv, hi, hzv, rfl⟩ := wC hz
 have hsh := FA hi hzv hs
 refine ⟨zv, i, hi, hzv, QL hE hd ?_⟩
 have hcell : ∀ (j : Nat) tv v, (zv.cells.toList.map (qU (S := S)))[j]? = some tv → zv.cells[j]? = some v → CR E M tv v := by
  intro j tv v h1 h2
  rw [List.getElem?_map, Array.getElem?_toList, h2] at h1
  simp only [Option.map_some, Option.some.injEq] at h1
  subst h1
  exact JI E M v (List.all_eq_true.1 hal _ (List.mem_map.2 ⟨v, by simpa using Array.mem_of_getElem? h2, rfl⟩))
 cases vag with
 | true =>
  simp only [if_true] at hsh ⊢
  obtain ⟨vs, rfl⟩ := hsh
  exact ⟨vs, rfl, by simp [Value.cells], hcell⟩
 | false =>
  simp only [Bool.false_eq_true, if_false] at hsh ⊢
  refine ⟨qU zv, by rw [hsh]; simp, hcell 0 _ _ (by rw [hsh]; simp) (by rw [hsh]; simp)⟩
theorem LO (hE : eg E) {ty kt et : TypeId} {ag : Bool} {sh : List ScK} {vc : S.K} {vag : Bool} (ho : o.op = .makeMap ty none) (hu : E.P.underlying ty = some (.map kt et)) :
  cw E o t ob base ⟨.map base, [], [(base, .mapo ag sh vag vc [] true 0)], base + 1⟩ := by
 refine ⟨by simp, fun p hp => ?_, fun n h1 h2 => ?_, ?_⟩
 ·simp only [List.mem_singleton] at hp; subst hp; exact .inl ⟨Nat.le_refl _, Nat.lt_succ_self _⟩
 ·simp only at h2; simp; omega
 ·intro B nt t' ob' a w φ M Q hd hev hrd hfr hB hrel
  have hnone : ob' base = none := hfr base (Nat.le_refl _) (Nat.lt_succ_self _)
  obtain ⟨h1, h2⟩ := hrel.mem.newMap hE.toEncOk hnone hB ag sh vag vc
  obtain ⟨dst, op', ty', pos, after, guard⟩ := o
  subst ho
  refine dh (v := .map (some w.heap.size)) (w' := { w with heap := w.heap.push (.map #[] 0) }) (aR ?_) ⟨_, M, hrel.put hd h2 (Mem.le_refl _) (.map (ab _ _ _)) h1⟩
  rfl
theorem wK.find (hE : eg E) {M : Mem} {kt : TypeId} {ag : Bool} {sh : List ScK} {vag : Bool} {vc : S.K} {L : List (List Sc × S.El vc × Nat)} {ex : Bool} {cl cl' : Nat} {es : Array MapEntry} (hk : E.keyTy kt = some (ag, sh)) (hm : wK E M ag sh vag vc L ex cl es cl') {q : List Sc} (hq : shaped sh q = true) (w : World) :
  ∃ L' : List (List Sc × S.El vc × Nat), L'.length = es.size ∧ (∀ (i : Nat) t e, L'[i]? = some t → es[i]? = some e → Gn E M ag sh vag vc t e) ∧ (ex = true → L' = L ∧ cl' = cl) ∧ (kv L').Perm (kv L) ∧ (L.map (·.1)).Nodup ∧ (L'.map (·.2.2)).Nodup ∧ (∀ t ∈ L', t.2.2 < cl') ∧ gf q L' = gf q L ∧
  (((Instr.findKey kt (bn ag q) es.toList).run E.P w = .ok none w ∧ gf q L' = none) ∨ ∃ j t e, (Instr.findKey kt (bn ag q) es.toList).run E.P w = .ok (some (j, e.val)) w ∧ L'[j]? = some t ∧ es[j]? = some e ∧ Gn E M ag sh vag vc t e ∧ t.1 = q ∧ gf q L' = some t.2.1 ∧
   (∀ y cl, sX q y cl L' = L'.set j (q, y, t.2.2)) ∧ vk q L' = L'.eraseIdx j) := by
 obtain ⟨L', h1, h2, h3, h4, h5, h6, h7⟩ := hm
 refine ⟨L', h1, h2, h3, h4, h5, h6, h7, LN h4 h5, ?_⟩
 have hR : ∀ (i : Nat) t e, L'[i]? = some t → es.toList[i]? = some e → Gn E M ag sh vag vc t e := fun i t e ht he => h2 i t e ht (by simpa using he)
 have hkeys : es.toList.map (·.key) = (L'.map (·.1)).map (bn ag) := by
  apply List.ext_getElem?
  intro i
  by_cases hi : i < es.size
  ·have e1 : L'[i]? = some (L'[i]'(by omega)) := List.getElem?_eq_getElem (by omega)
   have e2 : es.toList[i]? = some es[i] := by rw [Array.getElem?_toList]; exact Array.getElem?_eq_getElem hi
   obtain ⟨_, hkk, _⟩ := hR i _ _ e1 e2
   rw [List.getElem?_map, e2, List.getElem?_map, List.getElem?_map, e1]
   simp [hkk]
  ·rw [List.getElem?_eq_none_iff.2 (by simp; omega), List.getElem?_eq_none_iff.2 (by simp; omega)]
 have hsh : ∀ k ∈ L'.map (·.1), shaped sh k = true := by
  intro k hk
  obtain ⟨t, ht, rfl⟩ := List.mem_map.1 hk
  obtain ⟨i, hi⟩ := List.mem_iff_getElem?.1 ht
  have hlt := (List.getElem?_eq_some_iff.1 hi).1
  exact (hR i t _ hi (by rw [Array.getElem?_toList]; exact Array.getElem?_eq_getElem (by omega))).1
 have hf := (hE.keys kt ag sh hk).find w q hq es.toList (L'.map (·.1)) hkeys hsh
 rcases Dg (R := Gn E M ag sh vag vc) q L' es.toList 0 (by simpa using h1) hR with ⟨e1, e2⟩ | ⟨j, t, e, e1, e2, e3, e4, e5, e6, e7, e8⟩
 ·exact .inl ⟨by rw [hf, e1], e2⟩
 ·exact .inr ⟨j, t, e, by rw [hf, e1, Nat.zero_add], e2, by simpa using e3, e4, e5, e6, e7, e8⟩
theorem lookup_nil {P : Program} {ty kt et : TypeId} {kvl zv : Value} {ok : Bool} (w : World) (hu : P.underlying ty = some (.map kt et)) (hc : ∀ em, (Instr.checkKey em 10000 kt kvl).run P w = .ok () w) (hf : (Instr.findKey kt kvl []).run P w = .ok none w) (hz : (zeroValue et).run P w = .ok zv w) :
  (Instr.lookup ty (.map none) kvl ok).run P w = .ok (if ok = true then .tuple #[zv, .bool false] else zv) w := by
 unfold Instr.lookup
 simp [Go.run_underlying hu, hc, hf, hz, Result.andThen]
theorem Dh {P : Program} {ty kt et : TypeId} {kvl zv : Value} {ok : Bool} {b cl : Nat} {es : Array MapEntry} (w : World) (hu : P.underlying ty = some (.map kt et)) (hb : w.heap[b]? = some (.map es cl)) (hc : ∀ em, (Instr.checkKey em 10000 kt kvl).run P w = .ok () w) (hz : (zeroValue et).run P w = .ok zv w) {x : Option (Nat × Value)} (hf : (Instr.findKey kt kvl es.toList).run P w = .ok x w) :
  (Instr.lookup ty (.map (some b)) kvl ok).run P w = .ok (if ok = true then .tuple #[(x.map (·.2)).getD zv, .bool x.isSome] else (x.map (·.2)).getD zv) w := by
 unfold Instr.lookup
 cases x with
 | none => simp [Go.run_underlying hu, MapKept.run_getObj_map hb, hc, hf, hz, Result.andThen]
 | some p => obtain ⟨i, v⟩ := p; simp [Go.run_underlying hu, MapKept.run_getObj_map hb, hc, hf, Result.andThen]
theorem Of (hE : eg E) {ty kt et : TypeId} {m x : Operand} {ok : Bool} (ho : o.op = .lookup ty m x ok) (hu : E.P.underlying ty = some (.map kt et)) (h : Ak E ob base kt et (ev t m) (ev t x) ok k = some r) : ∃ e, k e = some r ∧ cw E o t ob base e := by
 unfold Ak at h
 split at h
 ·rename_i ag sh vc z vag n hkt hcode hz hty
  split at h
  ·rename_i d q hd hq
   split at h
   ·rename_i hchk
    obtain ⟨hal, hn, hzs⟩ := hchk
    have law := hE.keys kt ag sh hkt
    have out : ∀ {φ : Phi} {M : Mem} {tv : TV S} {u : Value} {b : Bool}, VR E (fun _ => none) M tv u → VR E φ M (if ok = true then .tup [tv, .bool b] else tv) (if ok = true then .tuple #[u, .bool b] else u) := by
     intro φ M tv u b hv
     have hv' : VR E φ M tv u := hv.mono (fun _ _ h => by cases h) (Mem.le_refl _)
     cases ok with
     | false => exact hv'
     | true =>
      refine .tup rfl fun i tv' v' h1 h2 => ?_
      match i with
      | 0 => simp at h1 h2; subst h1; subst h2; exact hv'
      | 1 => simp at h1 h2; subst h1; subst h2; exact .pure (.bool _)
      | i + 2 => simp at h1
    split at h
    ·rename_i hm
     split at h
     ·rename_i v hv
      refine ⟨_, h, cw.value fun B nt t' ob' a w φ M hev hrd hmem => ?_⟩
      have hx1 := hev x (by rw [ho]; simp [Op.operands])
      have hm1 := hev m (by rw [ho]; simp [Op.operands])
      rw [hm] at hm1
      obtain ⟨e1, e2⟩ := BS hq hx1
      obtain ⟨zv, i, hi, hzv, tv, h1, h2⟩ := MI hE M hz hal hzs hd
      rw [hv] at h1; cases h1
      obtain ⟨dst, op', ty', pos, after, guard⟩ := o
      subst ho
      refine ⟨_, aR ?_, out h2⟩
      rw [hm1.nilm, e1]
      exact lookup_nil w hu (fun em => law.check w em q e2) (law.find w q e2 [] [] rfl (by simp)) (eY et w hi hzv)
     ·cases h
    ·rename_i nm hm
     split at h
     ·rename_i ag' sh' vag' vc' L ex cl hob
      split at h
      ·rename_i hh
       obtain ⟨⟨rfl, rfl⟩, rfl, rfl⟩ := hh
       simp only [HJ] at h
       split at h
       ·rename_i v hv
        refine ⟨_, h, cw.value fun B nt t' ob' a w φ M hev hrd hmem => ?_⟩
        have hx1 := hev x (by rw [ho]; simp [Op.operands])
        have hm1 := hev m (by rw [ho]; simp [Op.operands])
        rw [hm] at hm1
        obtain ⟨g, hg, em1⟩ := hm1.map_inv
        obtain ⟨e1, e2⟩ := BS hq hx1
        obtain ⟨zv, i, hi, hzv, tv, h1, h2⟩ := MI hE M hz hal hzs hd
        have hob' : ob' nm = some (.mapo ag' sh' vag' vc' L ex cl) := by rw [hrd nm (by simp)]; exact hob
        obtain ⟨g', hg', es, cl', hb, hmi⟩ := hmem.objs nm _ hob'
        rw [hg] at hg'; cases hg'
        obtain ⟨L', l1, l2, l3, l4, l5, l6, l7, l8, l9⟩ := hmi.find hE hkt e2 w
        obtain ⟨dst, op', ty', pos, after, guard⟩ := o
        subst ho
        rcases l9 with ⟨f1, f2⟩ | ⟨j, tt, e, f1, f2, f3, f4, f5, f6, _⟩
        ·rw [f2] at l8
         rw [← l8] at hv ⊢
         simp only [Option.getD_none] at hv
         rw [hv] at h1; cases h1
         refine ⟨_, aR ?_, out (b := false) h2⟩
         rw [em1, e1]
         have := Dh (ok := ok) w hu hb (fun em => law.check w em q e2) (eY et w hi hzv) f1
         simpa using this
        ·rw [f6] at l8
         rw [← l8] at hv ⊢
         simp only [Option.getD_some] at hv
         obtain ⟨_, _, _, tv2, g1, g2⟩ := f4
         rw [hv] at g1; cases g1
         refine ⟨_, aR ?_, out (b := true) g2⟩
         rw [em1, e1]
         have := Dh (ok := ok) w hu hb (fun em => law.check w em q e2) (eY et w hi hzv) f1
         simpa using this
       ·cases h
      ·cases h
     ·cases h
    ·cases h
   ·cases h
  ·cases h
 ·cases h
theorem Og {M : Mem} {ag : Bool} {sh : List ScK} {vag : Bool} {vc : S.K} {L L' : List (List Sc × S.El vc × Nat)} {ex : Bool} {cl cl' : Nat} {es : Array MapEntry} {q : List Sc} {d : S.El vc} {v : Value} (hq : shaped sh q = true)
  (l1 : L'.length = es.size) (l2 : ∀ (i : Nat) t e, L'[i]? = some t → es[i]? = some e → Gn E M ag sh vag vc t e) (l3 : ex = true → L' = L ∧ cl' = cl) (l4 : (kv L').Perm (kv L)) (l5 : (L.map (·.1)).Nodup) (l6 : (L'.map (·.2.2)).Nodup) (l7 : ∀ t ∈ L', t.2.2 < cl')
  (hv : ∃ tv, aI vag (E.sz vc) 0 (E.enc vc d) = some tv ∧ VR E (fun _ => none) M tv v) (l8 : gf q L' = gf q L) :
  (gf q L' = none → wK E M ag sh vag vc (sX q d cl L) ex (if (gf q L).isSome = true then cl else cl + 1) (es.push ⟨bn ag q, v, cl'⟩) (cl' + 1)) ∧
  (∀ j t e, L'[j]? = some t → es[j]? = some e → t.1 = q → gf q L' = some t.2.1 → (∀ y cl, sX q y cl L' = L'.set j (q, y, t.2.2)) →
   wK E M ag sh vag vc (sX q d cl L) ex (if (gf q L).isSome = true then cl else cl + 1) (es.modify j fun e => { e with key := bn ag q, val := v }) cl') := by
 have n' : (L'.map (·.1)).Nodup := by rw [← qb]; exact (l4.map _).nodup_iff.2 (by rw [qb]; exact l5)
 have perm : ∀ c, (kv (sX q d c L')).Perm (kv (sX q d cl L)) := fun c =>
  (DQ n').trans (((l4.filter _).cons _).trans (DQ l5).symm)
 refine ⟨fun hnone => ?_, fun j t e hj he ht hf hset => ?_⟩
 ·have hL : gf q L = none := by rw [← l8]; exact hnone
  refine ⟨sX q d cl' L', ?_, fun i t e hi he => ?_, fun hex => ?_, perm cl', Fx l5, ?_, fun t ht => ?_⟩
  ·rw [yw hnone]; simp [l1]
  ·rw [yw hnone] at hi
   by_cases hlt : i < es.size
   ·rw [List.getElem?_append_left (by omega)] at hi
    rw [Array.getElem?_push_lt hlt] at he
    exact l2 i t e hi (by rw [Array.getElem?_eq_getElem hlt]; exact he)
   ·have : i = es.size := by
     have := (List.getElem?_eq_some_iff.1 hi).1
     simp at this; omega
    subst this
    rw [List.getElem?_append_right (by omega), l1] at hi
    simp at hi
    subst hi
    simp at he
    subst he
    exact ⟨hq, rfl, rfl, hv⟩
  ·obtain ⟨rfl, rfl⟩ := l3 hex
   rw [hL]
   exact ⟨rfl, by simp⟩
  ·rw [yw hnone]
   simp only [List.map_append, List.map_cons, List.map_nil]
   rw [List.nodup_append]
   refine ⟨l6, by simp, fun a ha b hb e => ?_⟩
   simp at hb
   obtain ⟨t, ht, rfl⟩ := List.mem_map.1 ha
   have := l7 t ht
   omega
  ·rw [yw hnone] at ht
   rcases List.mem_append.1 ht with h | h
   ·have := l7 t h; omega
   ·simp at h; subst h; exact Nat.lt_succ_self _
 ·have hL : (gf q L).isSome = true := by rw [← l8, hf]; rfl
  rw [hL]
  simp only [if_true]
  have hjl := (List.getElem?_eq_some_iff.1 hj).1
  have e1 : ∀ c, sX q d c L' = L'.set j (q, d, t.2.2) := fun c => hset d c
  have born : (L'.set j (q, d, t.2.2)).map (·.2.2) = L'.map (·.2.2) := by
   apply List.ext_getElem?
   intro i
   rw [List.getElem?_map, List.getElem?_map, List.getElem?_set]
   by_cases hij : j = i
   ·subst hij; rw [if_pos rfl, if_pos hjl, hj]; rfl
   ·rw [if_neg hij]
  refine ⟨sX q d cl L', by rw [e1]; simp [l1], fun i t' e' hi he' => ?_, fun hex => ?_, perm cl, Fx l5, by rw [e1, born]; exact l6, fun t' ht' => ?_⟩
  ·rw [e1, List.getElem?_set] at hi
   rw [Array.getElem?_modify] at he'
   by_cases hij : j = i
   ·subst hij
    rw [if_pos rfl, if_pos hjl] at hi
    rw [if_pos rfl, he] at he'
    cases hi; simp at he'; subst he'
    obtain ⟨_, _, hb, _⟩ := l2 j t e hj he
    exact ⟨hq, rfl, hb, hv⟩
   ·rw [if_neg hij] at hi
    rw [if_neg hij] at he'
    exact l2 i t' e' hi he'
  ·obtain ⟨rfl, rfl⟩ := l3 hex
   exact ⟨rfl, rfl⟩
  ·rw [e1] at ht'
   have : t'.2.2 ∈ (L'.set j (q, d, t.2.2)).map (·.2.2) := List.mem_map.2 ⟨t', ht', rfl⟩
   rw [born] at this
   obtain ⟨t2, ht2, e2⟩ := List.mem_map.1 this
   rw [← e2]; exact l7 t2 ht2
theorem GU {M : Mem} {ag : Bool} {sh : List ScK} {vag : Bool} {vc : S.K} {L L' : List (List Sc × S.El vc × Nat)} {ex : Bool} {cl cl' : Nat} {es : Array MapEntry} {q : List Sc}
  (l1 : L'.length = es.size) (l2 : ∀ (i : Nat) t e, L'[i]? = some t → es[i]? = some e → Gn E M ag sh vag vc t e) (l3 : ex = true → L' = L ∧ cl' = cl) (l4 : (kv L').Perm (kv L)) (l5 : (L.map (·.1)).Nodup) (l6 : (L'.map (·.2.2)).Nodup) (l7 : ∀ t ∈ L', t.2.2 < cl') {es' : Array MapEntry}
  (h : (gf q L' = none ∧ es' = es) ∨ ∃ j, j < es.size ∧ vk q L' = L'.eraseIdx j ∧ es' = es.eraseIdxIfInBounds j) : wK E M ag sh vag vc (vk q L) ex cl es' cl' := by
 have n' : (L'.map (·.1)).Nodup := by rw [← qb]; exact (l4.map _).nodup_iff.2 (by rw [qb]; exact l5)
 have perm : (kv (vk q L')).Perm (kv (vk q L)) := by rw [DR n', DR l5]; exact l4.filter _
 have same : ex = true → vk q L' = vk q L ∧ cl' = cl := fun hex => by obtain ⟨rfl, rfl⟩ := l3 hex; exact ⟨rfl, rfl⟩
 rcases h with ⟨h1, rfl⟩ | ⟨j, hj, h1, rfl⟩
 ·rw [GR h1] at perm same
  exact ⟨L', l1, l2, same, perm, Fy l5, l6, l7⟩
 ·have hes : (es.eraseIdxIfInBounds j).toList = es.toList.eraseIdx j := by simp [Array.eraseIdxIfInBounds, hj]
  refine ⟨L'.eraseIdx j, ?_, fun i t e hi he => ?_, by rw [← h1]; exact same, by rw [← h1]; exact perm, Fy l5, ?_, fun t ht => l7 t (List.mem_of_mem_eraseIdx ht)⟩
  ·rw [← Array.length_toList, hes, List.length_eraseIdx, List.length_eraseIdx]; simp [l1]
  ·have he2 : (es.toList.eraseIdx j)[i]? = some e := by rw [← hes, Array.getElem?_toList]; exact he
   rw [List.getElem?_eraseIdx] at hi he2
   split at hi
   ·rename_i hij
    rw [if_pos hij] at he2
    exact l2 i t e hi (by simpa using he2)
   ·rename_i hij
    rw [if_neg hij] at he2
    exact l2 (i + 1) t e hi (by simpa using he2)
  ·exact ((List.eraseIdx_sublist _ _).map _).nodup l6
theorem LP {P : Program} {ty kt et : TypeId} {kvl v : Value} {b cl : Nat} {es : Array MapEntry} (w : World) (hu : P.underlying ty = some (.map kt et)) (hb : w.heap[b]? = some (.map es cl)) (hc : ∀ em, (Instr.checkKey em 10000 kt kvl).run P w = .ok () w) (hf : (Instr.findKey kt kvl es.toList).run P w = .ok none w) :
  (Instr.mapUpdate ty (.map (some b)) kvl v).run P w = .ok () { w with heap := w.heap.setIfInBounds b (.map (es.push ⟨kvl, v, cl⟩) (cl + 1)) } := by
 unfold Instr.mapUpdate
 simp [Go.run_underlying hu, MapKept.run_getObj_map hb, hc, hf, MapKept.run_setObj_map _ hb, Result.andThen]
theorem LQ {P : Program} {ty kt et : TypeId} {kvl v u : Value} {b cl j : Nat} {es : Array MapEntry} {e : MapEntry} (w : World) (hu : P.underlying ty = some (.map kt et)) (hb : w.heap[b]? = some (.map es cl)) (hc : ∀ em, (Instr.checkKey em 10000 kt kvl).run P w = .ok () w) (hf : (Instr.findKey kt kvl es.toList).run P w = .ok (some (j, u)) w)
  (he : es[j]? = some e) (hk : e.key = kvl) (hst : (Instr.keyThatStays kvl kvl).run P w = .ok kvl w) :
  (Instr.mapUpdate ty (.map (some b)) kvl v).run P w = .ok () { w with heap := w.heap.setIfInBounds b (.map (es.modify j fun e => { e with key := kvl, val := v }) cl) } := by
 unfold Instr.mapUpdate
 simp [Go.run_underlying hu, MapKept.run_getObj_map hb, hc, hf, he, hk, hst, MapKept.run_setObj_map _ hb, Result.andThen]
theorem Sw (hE : eg E) {vc : S.K} {y : TV S} {d : S.El vc} {B : fq} {w : World} {φ : Phi} {M : Mem} {o' : Nat → Option (Obj S)} {v : Value} {vag : Bool} (hd : elem E ob vc y = some d) (hag : Sg y = vag) (hm : bA E B o' w φ M) (hv : VR E φ M y v)
  (hr : ∀ nm ∈ (cellsOf y).flatMap aH, ∀ c xs m, ob nm = some (.row c xs m) → ∃ m', m' ≠ .own ∧ (m = .app → m' = .app) ∧ o' nm = some (.row c xs m')) : ∃ tv, aI vag (E.sz vc) 0 (E.enc vc d) = some tv ∧ VR E (fun _ => none) M tv v := by
 unfold elem at hd
 obtain ⟨cs, h1, h2⟩ := Option.bind_eq_some_iff.1 hd
 obtain ⟨h3, h4⟩ := ym h1
 refine QL hE h2 ?_
 cases vag with
 | true =>
  simp only [if_true]
  cases y <;> simp [Sg] at hag
  rename_i ys
  obtain ⟨vs, rfl, hl, hc⟩ := hv.agg_inv
  simp only [cellsOf] at h3 h4 hr
  refine ⟨vs, rfl, by omega, fun i tv u hi hu => ?_⟩
  obtain ⟨x, hx⟩ : ∃ x, ys[i]? = some x := ⟨_, List.getElem?_eq_getElem (by rw [h3]; exact (List.getElem?_eq_some_iff.1 hi).1)⟩
  obtain ⟨z, hz, hp⟩ := h4 i x hx
  rw [hi] at hz; cases hz
  exact pE hm hp (fun nm hn c xs m ho => hr nm (List.mem_flatMap.2 ⟨x, List.mem_of_getElem? hx, hn⟩) c xs m ho) hE.toEncOk (hc i x u hx hu)
 | false =>
  simp only [Bool.false_eq_true, if_false]
  have hcs : cellsOf y = [y] := by cases y <;> first | rfl | (simp [Sg] at hag)
  rw [hcs] at h3 h4 hr
  obtain ⟨z, hz, hp⟩ := h4 0 y rfl
  have : cs = [z] := by
   match cs, h3 with
   | [c], _ => simp at hz; rw [hz]
  exact ⟨z, this, pE hm hp (fun nm hn c xs m ho => hr nm (by simp [hn]) c xs m ho) hE.toEncOk hv⟩
theorem GV (hE : eg E) {ty kt et : TypeId} {m x y : Operand} (ho : o.op = .mapUpdate ty m x y ∨ o.op = .insert ty m x y) (hu : E.P.underlying ty = some (.map kt et)) (h : vY E ob base kt (ev t m) (ev t x) (ev t y) k = some r) : ∃ e, k e = some r ∧ cw E o t ob base e := by
 unfold vY at h
 split at h
 ·rename_i nm hmt
  split at h
  ·rename_i ag sh vag vc L ex cl hob
   split at h
   ·rename_i q d hq hd
    split at h
    ·rename_i hchk
     obtain ⟨hkt, hva⟩ := hchk
     have law := hE.keys kt ag sh hkt
     refine ⟨_, h, ?_⟩
     have hops : ∀ z, z = m ∨ z = x ∨ z = y → z ∈ o.op.operands := by
      intro z hz
      rcases ho with ho | ho <;> rw [ho] <;> simp [Op.operands] <;> exact hz
     refine ⟨Nat.le_refl _, fun p hp => ?_, fun n h1 h2 => ?_, ?_⟩
     ·simp only [List.mem_append, List.mem_singleton] at hp
      rcases hp with hp | rfl
      ·obtain ⟨h1, c', xs', _, h2⟩ := dy hp
       exact .inr ⟨by simp only [List.mem_cons]; exact .inr h1, by simp [h2]⟩
      ·exact .inr ⟨by simp, by simp [hob]⟩
     ·simp only at h2; omega
     ·intro B nt t' ob' a w φ M Q hdd hev hrd hfr hB hrel
      have hm1 := hev m (hops m (.inl rfl))
      have hx1 := hev x (hops x (.inr (.inl rfl)))
      have hy1 := hev y (hops y (.inr (.inr rfl)))
      rw [hmt] at hm1
      obtain ⟨g, hg, em1⟩ := hm1.map_inv
      obtain ⟨e1, e2⟩ := BS hq hx1
      have hag : ∀ n ∈ (cellsOf (ev t y)).flatMap aH, ob' n = ob n := fun n hn => hrd n (by simp only [List.mem_cons]; exact .inr hn)
      obtain ⟨M1, hM1, hW1⟩ := hrel.mem.freezeList hE.toEncOk (eG ob ((cellsOf (ev t y)).flatMap aH)) _ M (fun p hp => by
       obtain ⟨h1, c', xs', h2, h3⟩ := dy hp
       exact ⟨c', xs', h2, .inl (by rw [hag _ h1]; exact h3)⟩) (fun p hp q hq e => tI p hp q hq e)
      have hob1 : aM ob' (eG ob ((cellsOf (ev t y)).flatMap aH)) nm = some (.mapo ag sh vag vc L ex cl) := by
       rw [cN _ _ ?_, hrd nm (by simp)]
       ·exact hob
       ·intro hc
        simp only [List.mem_map] at hc
        obtain ⟨p, hp, e⟩ := hc
        obtain ⟨_, c', xs', _, h3⟩ := dy hp
        rw [e, hob] at h3; cases h3
      have hval := Sw hE hd hva hW1 (hy1.mono (Phi.le_refl _) hM1) (fun nm' hn c xs mm hm' => uh hn hm' (hag _ hn))
      obtain ⟨g', hg', es, cl', hb, hmi⟩ := hW1.objs nm _ hob1
      rw [hg] at hg'; cases hg'
      obtain ⟨L', l1, l2, l3, l4, l5, l6, l7, l8, l9⟩ := hmi.find hE hkt e2 w
      obtain ⟨u1, u2⟩ := Og (d := d) (v := a.eval y) e2 l1 l2 l3 l4 l5 l6 l7 hval l8
      obtain ⟨dst, op', ty', pos, after, guard⟩ := o
      have fin : ∀ {es2 : Array MapEntry} {cl2 : Nat}, (Instr.mapUpdate ty (.map (some g.b)) (bn ag q) (a.eval y)).run E.P w = .ok () { w with heap := w.heap.setIfInBounds g.b (.map es2 cl2) } →
        wK E M1 ag sh vag vc (sX q d cl L) ex (if (gf q L).isSome = true then cl else cl + 1) es2 cl2 →
        (⟨dst, op', ty', pos, after, guard⟩ : Oper).upon E.P a (fun a' w' => ∃ φ' M', Rel E B nt (putDst t' dst .undef) (aM ob' (eG ob ((cellsOf (ev t y)).flatMap aH) ++ [(nm, .mapo ag sh vag vc (sX q d cl L) ex (if (gf q L).isSome = true then cl else cl + 1))])) a' w' φ' M') Q ((execOp a.eval ⟨dst, op', ty', pos, after, guard⟩).run E.P w) := by
       intro es2 cl2 hrun hmi2
       refine wB (w' := { w with heap := w.heap.setIfInBounds g.b (.map es2 cl2) }) ?_ ⟨φ, M1, hrel.put hdd (Phi.le_refl _) hM1 (.pure .undef) ?_⟩
       ·rcases ho with ho | ho <;> (simp only at ho; subst ho; refine Fs ?_; rw [em1, e1]; exact hrun)
       ·rw [kx, fU]
        exact hW1.setMap hE.toEncOk hg hob1 hmi2
      rcases l9 with ⟨f1, f2⟩ | ⟨j, tt, e, f1, f2, f3, f4, f5, f6, f7, _⟩
      ·exact fin (LP w hu hb (fun em => law.check w em q e2) f1) (u1 f2)
      ·exact fin (LQ w hu hb (fun em => law.check w em q e2) f1 f3 (by rw [f4.2.1, f5]) (law.stays w q e2)) (u2 j tt e f2 f3 f5 f6 f7)
    ·cases h
   ·cases h
  ·cases h
 ·cases h
def erased (z : Option (Nat × Value)) (es : Array MapEntry) : Array MapEntry := match z with
 | some (i, _) => es.eraseIdxIfInBounds i
 | none => es
theorem LR {P : Program} {ty kt et t1 : TypeId} {tys : Array TypeId} {args : Array Value} {kvl : Value} {b cl : Nat} {es : Array MapEntry} (w : World) (ha : args.toList = [.map (some b), kvl]) (ht : tys[0]? = some ty) (hu : P.underlying ty = some (.map kt et)) (hb : w.heap[b]? = some (.map es cl)) (hc : ∀ em, (Instr.checkKey em 10000 kt kvl).run P w = .ok () w) {x : Option (Nat × Value)} (hf : (Instr.findKey kt kvl es.toList).run P w = .ok x w) :
  (Builtin.delete_ tys t1 args).run P w = .ok (.tuple #[]) { w with heap := w.heap.setIfInBounds b (.map (erased x es) cl) } := by
 have h0 : args[0]? = some (.map (some b)) := by rw [← Array.getElem?_toList, ha]; rfl
 have h1 : args[1]? = some kvl := by rw [← Array.getElem?_toList, ha]; rfl
 unfold Builtin.delete_
 rw [ht, h0, h1]
 cases x with
 | none => simp [Go.run_underlying hu, MapKept.run_getObj_map hb, hc, hf, MapKept.run_setObj_map _ hb, Result.andThen, erased]
 | some p => obtain ⟨i, v⟩ := p; simp [Go.run_underlying hu, MapKept.run_getObj_map hb, hc, hf, MapKept.run_setObj_map _ hb, Result.andThen, erased]
theorem FB {P : Program} {x : Option TypeId} {d : TypeDesc} (h : x.bind P.underlying = some d) : ∃ ty, x = some ty ∧ P.underlying ty = some d := by
 cases x with
 | none => cases h
 | some ty => exact ⟨ty, rfl, h⟩
theorem Oh {x : Operand} {args : Array Operand} {ts : Array TypeId} {nm : Nat} {kt et : TypeId} {ag : Bool} {sh : List ScK} {vag : Bool} {vc : S.K} {L : List (List Sc × S.El vc × Nat)} {ex : Bool} {cl : Nat} (ho : o.op = .call { callee := .builtin .len, args, argTypes := ts }) (ha : args.toList = [x]) (hx : ev t x = .map nm)
  (hu : (ts[0]?).bind E.P.underlying = some (.map kt et)) (hob : ob nm = some (.mapo ag sh vag vc L ex cl)) : cw E o t ob base ⟨.int .i64 L.length, [nm], [], base⟩ := by
 refine cw.value fun B nt t' ob' a w φ M hv hrd hm => ?_
 have hargs : args = #[x] := by rw [← Array.toArray_toList (xs := args), ha]
 subst hargs
 have h2 := hv x (by rw [ho]; simp [Op.operands, Call.operands])
 rw [hx] at h2
 obtain ⟨g, hg, e⟩ := h2.map_inv
 obtain ⟨g', hg', es, cl', hb, L', l1, _, _, l4, _⟩ := hm.objs nm _ (by rw [hrd nm (by simp)]; exact hob)
 rw [hg] at hg'; cases hg'
 obtain ⟨ty, ht, hu'⟩ := FB hu
 have hsz : es.size = L.length := by
  have := l4.length_eq
  simp at this
  omega
 obtain ⟨dst, op', ty', pos, after, guard⟩ := o
 subst ho
 refine ⟨.int .i64 L.length, ?_, .pure (.int _ _)⟩
 rw [qE, show Array.map a.eval #[x] = #[a.eval x] by simp, e]
 refine aR (s := Builtin.len_ ts ty' #[.map (some g.b)]) ?_
 unfold Builtin.len_
 rw [ht]
 simp [Go.run_underlying hu', MapKept.run_getObj_map hb, Result.andThen, hsz, goInt]
theorem Oi (hE : eg E) {x y : Operand} {args : Array Operand} {ts : Array TypeId} {kt et : TypeId} (ho : o.op = .call { callee := .builtin .delete, args, argTypes := ts }) (ha : args.toList = [x, y])
  (hu : (ts[0]?).bind E.P.underlying = some (.map kt et)) (h : vZ E ob base kt (ev t x) (ev t y) k = some r) : ∃ e, k e = some r ∧ cw E o t ob base e := by
 unfold vZ at h
 split at h
 ·rename_i nm hx
  split at h
  ·rename_i ag sh vag vc L ex cl hob
   split at h
   ·rename_i q hq
    split at h
    ·rename_i hkt
     have law := hE.keys kt ag sh hkt
     obtain ⟨ty, ht, hu'⟩ := FB hu
     refine ⟨_, h, Nat.le_refl _, fun p hp => ?_, fun n h1 h2 => ?_, ?_⟩
     ·simp only [List.mem_singleton] at hp; subst hp
      exact .inr ⟨by simp, by simp [hob]⟩
     ·simp only at h2; omega
     ·intro B nt t' ob' a w φ M Q hdd hev hrd hfr hB hrel
      have hargs : args = #[x, y] := by rw [← Array.toArray_toList (xs := args), ha]
      subst hargs
      have hx1 := hev x (by rw [ho]; simp [Op.operands, Call.operands])
      have hy1 := hev y (by rw [ho]; simp [Op.operands, Call.operands])
      rw [hx] at hx1
      obtain ⟨g, hg, em1⟩ := hx1.map_inv
      obtain ⟨e1, e2⟩ := BS hq hy1
      have hob1 : ob' nm = some (.mapo ag sh vag vc L ex cl) := by rw [hrd nm (by simp)]; exact hob
      obtain ⟨g', hg', es, cl', hb, hmi⟩ := hrel.mem.objs nm _ hob1
      rw [hg] at hg'; cases hg'
      obtain ⟨L', l1, l2, l3, l4, l5, l6, l7, l8, l9⟩ := hmi.find hE hkt e2 w
      obtain ⟨dst, op', ty', pos, after, guard⟩ := o
      subst ho
      have fin : ∀ {z : Option (Nat × Value)}, (Instr.findKey kt (bn ag q) es.toList).run E.P w = .ok z w → wK E M ag sh vag vc (vk q L) ex cl (erased z es) cl' → _ :=
       fun {z} hf hmi2 => dh (P := E.P) (o := ⟨dst, .call { callee := .builtin .delete, args := #[x, y], argTypes := ts }, ty', pos, after, guard⟩) (a := a) (next := fun a' w' => ∃ φ' M', Rel E B nt (putDst t' dst (.tup [])) (aM ob' [(nm, .mapo ag sh vag vc (vk q L) ex cl)]) a' w' φ' M') (Q := Q)
        (r := (execOp a.eval ⟨dst, .call { callee := .builtin .delete, args := #[x, y], argTypes := ts }, ty', pos, after, guard⟩).run E.P w) (v := .tuple #[]) (w' := { w with heap := w.heap.setIfInBounds g.b (.map (erased z es) cl') }) (by
         rw [qE, show Array.map a.eval #[x, y] = #[a.eval x, a.eval y] by simp]
         refine aR (s := Builtin.delete_ ts ty' #[a.eval x, a.eval y]) ?_
         exact LR (args := #[a.eval x, a.eval y]) w (by rw [em1, e1]) ht hu' hb (fun em => law.check w em q e2) hf)
        ⟨φ, M, hrel.put hdd (Phi.le_refl _) (Mem.le_refl _) (.tup rfl (fun i tv v h => by simp at h)) (by
         rw [fU]
         exact hrel.mem.setMap hE.toEncOk hg hob1 hmi2)⟩
      rcases l9 with ⟨f1, f2⟩ | ⟨j, tt, e, f1, f2, f3, f4, f5, f6, _, f8⟩
      ·exact fin f1 (GU l1 l2 l3 l4 l5 l6 l7 (.inl ⟨f2, rfl⟩))
      ·exact fin f1 (GU l1 l2 l3 l4 l5 l6 l7 (.inr ⟨j, (Array.getElem?_eq_some_iff.1 f3).1, f8, rfl⟩))
    ·cases h
   ·cases h
  ·cases h
 ·cases h
theorem bA.newIter (hE : EncOk E) {B : fq} {o' : Nat → Option (Obj S)} {w : World} {φ : Phi} {M : Mem} (h : bA E B o' w φ M) {nm mp : Nat} {gm : GI} (hn : o' nm = none) (hB : B.m ≤ nm) (hm : φ mp = some gm) (since : Nat) (seen : List Nat) (stepped : Nat) :
  bA E B (bM o' nm (some (.iter mp since seen stepped))) { w with heap := w.heap.push (.mapIter (some gm.b) since seen.reverse.toArray stepped) } (bM φ nm (some ⟨w.heap.size, 0, 0, 0⟩)) M ∧ φ.le (bM φ nm (some ⟨w.heap.size, 0, 0, 0⟩)) := by
 have hle : φ.le (bM φ nm (some ⟨w.heap.size, 0, 0, 0⟩)) := by
  intro n g hg
  by_cases e : n = nm
  ·subst e; rw [h.fresh n hn] at hg; cases hg
  ·rw [aq _ _ e]; exact hg
 have hself : bM φ nm (some (⟨w.heap.size, 0, 0, 0⟩ : GI)) nm = some ⟨w.heap.size, 0, 0, 0⟩ := ab _ _ _
 refine ⟨h.step hE (· = nm) (fun _ => False) hle (Mem.le_refl _) (by simp) rfl rfl rfl (fun b hb _ => ?_) (fun b hb => hb.elim) (fun b off hd => absurd rfl hd)
  (fun b off v h1 h2 => by rw [h1] at h2; cases h2) (fun n' hn' => ⟨aq _ _ hn', aq _ _ hn'⟩) ?_ ?_ ?_ ?_ (fun n' hn' => aq _ _ (by omega)), hle⟩
 ·show (w.heap.push _)[b]? = _
  rw [Array.getElem?_push, if_neg (by omega)]
 ·rintro n' y rfl hy
  rw [ab] at hy; cases hy
  exact ⟨_, gm, hself, hle _ _ hm, rfl, by simp⟩
 ·rintro n' rfl hy
  rw [ab] at hy; cases hy
 ·rintro n' y b f rfl hy hcl
  rw [ab] at hy; cases hy
  rw [wA hself] at hcl
  cases hcl
  refine ⟨by simp, .inl (Nat.le_refl _), fun off _ => ?_⟩
  cases hm : M w.heap.size off with
  | none => rfl
  | some v => have := jW (h.mval _ _ _ hm); omega
 ·rintro n1 n2 _ _ _ _ _ rfl rfl _ _ _ _; rfl
theorem QM (hE : eg E) {ty kt et : TypeId} {m : Operand} {nm : Nat} {ag : Bool} {sh : List ScK} {vag : Bool} {vc : S.K} {L : List (List Sc × S.El vc × Nat)} {cl : Nat} (ho : o.op = .range ty m) (hu : E.P.underlying ty = some (.map kt et)) (hm : ev t m = .map nm) (hob : ob nm = some (.mapo ag sh vag vc L true cl)) :
  cw E o t ob base ⟨.ptr base 0 0, [nm], [(base, .iter nm cl [] cl)], base + 1⟩ := by
 refine ⟨by simp, fun p hp => ?_, fun n h1 h2 => ?_, ?_⟩
 ·simp only [List.mem_singleton] at hp; subst hp; exact .inl ⟨Nat.le_refl _, Nat.lt_succ_self _⟩
 ·simp only at h2; simp; omega
 ·intro B nt t' ob' a w φ M Q hd hev hrd hfr hB hrel
  have hnone : ob' base = none := hfr base (Nat.le_refl _) (Nat.lt_succ_self _)
  have hm1 := hev m (by rw [ho]; simp [Op.operands])
  rw [hm] at hm1
  obtain ⟨g, hg, em1⟩ := hm1.map_inv
  have hob1 : ob' nm = some (.mapo ag sh vag vc L true cl) := by rw [hrd nm (by simp)]; exact hob
  obtain ⟨g', hg', es, cl', hb, L', _, _, l3, _⟩ := hrel.mem.objs nm _ hob1
  rw [hg] at hg'; cases hg'
  obtain ⟨rfl, rfl⟩ := l3 rfl
  obtain ⟨h1, h2⟩ := hrel.mem.newIter hE.toEncOk hnone hB hg cl' [] cl'
  obtain ⟨dst, op', ty', pos, after, guard⟩ := o
  subst ho
  refine dh (v := .pointer (some (at_ w.heap.size 0))) (w' := { w with heap := w.heap.push (.mapIter (some g.b) cl' #[] cl') }) (aR ?_) ⟨_, M, hrel.put hd h2 (Mem.le_refl _) ?_ h1⟩
  ·rw [em1]
   unfold Instr.range
   simp [Go.run_underlying hu, MapKept.run_getObj_map hb, Result.andThen, at_]
  ·have := VR.ptr (E := E) (φ := bM φ base (some ⟨w.heap.size, 0, 0, 0⟩)) (M := M) (nm := base) (i := 0) (k := 0) (ab _ _ _)
   simpa using this
theorem FC {α : Type} {b : Nat} : ∀ {L : List (List Sc × α × Nat)} {t : List Sc × α × Nat}, JB b L = some t → ∃ j, L[j]? = some t ∧ t.2.2 = b ∧ ∀ (i : Nat) t', i < j → L[i]? = some t' → t'.2.2 ≠ b
 | [], t, h => by cases h
 | e :: r, t, h => by
  simp only [JB] at h
  split at h
  ·rename_i hb
   cases h
   exact ⟨0, rfl, hb, fun i t' hi => absurd hi (Nat.not_lt_zero _)⟩
  ·rename_i hb
   obtain ⟨j, h1, h2, h3⟩ := FC h
   refine ⟨j + 1, by simpa using h1, h2, fun i t' hi ht => ?_⟩
   cases i with
   | zero => simp at ht; subst ht; exact hb
   | succ i => exact h3 i t' (by omega) (by simpa using ht)
theorem find_born {es : List MapEntry} {stamp : Nat} : ∀ {j : Nat} {e : MapEntry}, es[j]? = some e → e.born = stamp → (∀ (i : Nat) e', i < j → es[i]? = some e' → e'.born ≠ stamp) → es.find? (fun x => x.born == stamp) = some e := by
 induction es with
 | nil => intro j e h; simp at h
 | cons x r ih =>
  intro j e h hb hall
  cases j with
  | zero => simp at h; subst h; simp [hb]
  | succ j =>
   have := hall 0 x (Nat.succ_pos _) rfl
   rw [List.find?_cons_of_neg (by simpa using this)]
   exact ih (by simpa using h) hb (fun i e' hi he => hall (i + 1) e' (by omega) (by simpa using he))
theorem JY : ∀ {sh : List ScK} {k : List Sc}, shaped sh k = true → (GD sh k : List (TV S)) = k.map zo
 | [], [], _ => rfl
 | [], _ :: _, h => by simp [shaped] at h
 | a :: r, [], h => by simp [shaped] at h
 | a :: r, x :: k, h => by
  simp only [shaped, List.map_cons, List.cons.injEq, decide_eq_true_eq] at h
  obtain ⟨h1, h2⟩ := h
  have ih := JY (sh := r) (k := k) (by simp only [shaped, decide_eq_true_eq]; exact h2)
  subst h1
  cases x <;> (simp only [Sc.kind, GD, List.tail_cons, List.map_cons, zo, scI, scB, scS]; rw [ih])
theorem Oj {ag : Bool} {sh : List ScK} {k : List Sc} (h : shaped sh k = true) : (HI ag sh k : TV S) = mr ag k := by
 have h1 := JY (S := S) h
 unfold HI mr
 cases ag with
 | true => rw [if_pos rfl, if_pos rfl, h1]
 | false =>
  rw [if_neg (by simp), if_neg (by simp)]
  simp only [shaped, decide_eq_true_eq] at h
  subst h
  match k with
  | [] => rfl
  | [x] => cases x <;> rfl
  | x :: y :: r => cases x <;> rfl
theorem QN {it : Operand} {nm mp since stepped stamp : Nat} {seen : List Nat} {ag : Bool} {sh : List ScK} {vag : Bool} {vc : S.K} {L : List (List Sc × S.El vc × Nat)} {cl : Nat} {e : List Sc × S.El vc × Nat} {v : TV S} (ho : o.op = .entry it) (hi : ev t it = .ptr nm 0 0) (hob : ob nm = some (.iter mp since seen stepped))
  (hl : seen.head? = some stamp) (hmp : ob mp = some (.mapo ag sh vag vc L true cl)) (hcl : cl = stepped) (hf : JB stamp L = some e) (hv : aI vag (E.sz vc) 0 (E.enc vc e.2.1) = some v) : cw E o t ob base ⟨.tup [HI ag sh e.1, v], [nm, mp], [], base⟩ := by
 refine cw.value fun B nt t' ob' a w φ M hev hrd hmem => ?_
 have h1 := hev it (by rw [ho]; simp [Op.operands])
 rw [hi] at h1
 obtain ⟨g, hg, e1⟩ := h1.ptr_inv
 obtain ⟨g', gm, hg', hgm, hs, hb⟩ := hmem.objs nm _ (by rw [hrd nm (by simp)]; exact hob)
 rw [hg] at hg'; cases hg'
 obtain ⟨g2, hg2, es, cl', hb2, L', l1, l2, l3, _⟩ := hmem.objs mp _ (by rw [hrd mp (by simp)]; exact hmp)
 rw [hgm] at hg2; cases hg2
 obtain ⟨rfl, rfl⟩ := l3 rfl
 obtain ⟨j, hj, hjb, hja⟩ := FC hf
 have hjl : j < es.size := by rw [← l1]; exact (List.getElem?_eq_some_iff.1 hj).1
 have hej : es[j]? = some es[j] := Array.getElem?_eq_getElem hjl
 obtain ⟨k0, k1, k2, tv, k3, k4⟩ := l2 j e es[j] hj hej
 rw [hv] at k3; cases k3
 have hfind : es.toList.find? (fun x => x.born == stamp) = some es[j] := find_born (j := j) (by rw [Array.getElem?_toList]; exact hej) (by rw [k2, hjb]) (fun i e' hi' he' => by
  obtain ⟨t', ht'⟩ : ∃ t', L'[i]? = some t' := ⟨_, List.getElem?_eq_getElem (by have := (List.getElem?_eq_some_iff.1 hj).1; omega)⟩
  obtain ⟨_, _, q2, _⟩ := l2 i t' e' ht' (by simpa using he')
  rw [q2]; exact hja i t' hi' ht')
 obtain ⟨dst, op', ty', pos, after, guard⟩ := o
 subst ho
 refine ⟨.tuple #[es[j].key, es[j].val], aR ?_, .tup rfl fun i tv' v' h1 h2 => ?_⟩
 ·rw [e1, hs]
  unfold Instr.entry
  have hget : (getObj g.b).run E.P w = .ok (.mapIter (some gm.b) since seen.reverse.toArray stepped) w := by simp [getObj, Sem.run, hb]
  have hback : seen.reverse.toArray.back? = some stamp := by rw [List.back?_toArray, List.getLast?_reverse]; exact hl
  generalize seen.reverse.toArray = sa at hget hback
  simp [at_, hget, hback, MapKept.run_getObj_map hb2, hcl, Result.andThen, ← Array.find?_toList, hfind]
 ·match i with
  | 0 => simp at h1 h2; subst h1; subst h2; rw [k1, Oj k0]; exact Fz E φ M ag e.1
  | 1 => simp at h1 h2; subst h1; subst h2; exact k4.mono (fun _ _ h => by cases h) (Mem.le_refl _)
  | i + 2 => simp at h1
theorem BT {P : Program} {ty e : TypeId} {inf : TypeInfo} {L b off : Nat} {q : IntKind} {n : Int} (w : World) (hu : P.underlying ty = some (.array L e)) (hi : P.info? e = some inf) (h0 : 0 ≤ n) (h1 : n < L) :
  (Instr.indexAt ty (.pointer (some (at_ b off))) (.int q n)).run P w = .ok (.pointer (some (at_ b (off + n.toNat * inf.size)))) w := by
 unfold Instr.indexAt
 simp only [TE.run_bind, qD, TE.run_underlying ty w hu, rv, TE.run_pure, h0, h1, and_self, if_true, run_sizeOf e w hi, sI]
theorem Di {ty e : TypeId} {x y : Operand} {q : IntKind} {n : Int} {L : Nat} {inf : TypeInfo} {tv : TV S} (ho : o.op = .indexAddr ty x y) (hu : E.P.underlying ty = some (.array L e)) (hi : E.P.info? e = some inf) (hy : ev t y = .int q n) (h0 : 0 ≤ n) (h1 : n < L)
  (hx : (∃ nm i j, ev t x = .ptr nm i j ∧ tv = .ptr nm i (j + n.toNat * inf.size)) ∨ ∃ c z j, ev t x = .iptr c z j ∧ tv = .iptr c z (j + n.toNat * inf.size)) : cw E o t ob base ⟨tv, [], [], base⟩ := by
 refine cw.value fun B nt t' ob' a w φ M hv hrd hm => ?_
 have h2 := hv x (by rw [ho]; simp [Op.operands])
 have h3 := hv y (by rw [ho]; simp [Op.operands])
 rw [hy] at h3
 have e3 := h3.int
 obtain ⟨dst, op', ty', pos, after, guard⟩ := o
 subst ho
 rcases hx with ⟨nm, i, j, e1, rfl⟩ | ⟨c, z, j, e1, rfl⟩
 ·rw [e1] at h2
  obtain ⟨g, hg, e2⟩ := h2.ptr_inv
  refine ⟨_, aR (by rw [e2, e3]; exact BT w hu hi h0 h1), ?_⟩
  rw [Nat.add_assoc]
  exact .ptr hg
 ·rw [e1] at h2
  obtain ⟨b, off, e2, hM⟩ := h2.iptr_inv
  refine ⟨_, aR (by rw [e2, e3]; exact BT w hu hi h0 h1), ?_⟩
  rw [Nat.add_assoc]
  exact VR.iptr_mk b off rfl hM
end
end TE
