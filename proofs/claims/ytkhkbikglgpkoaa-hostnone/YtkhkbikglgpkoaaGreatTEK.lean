/- TE: keys of maps. -/
import Derived.Test.YtkhkbikglgpkoaaGreatTEM
namespace TE
open Go
variable {S : Sig} {E : Env S}

def flatF (rec : TypeId → Option (Bool × List ScK)) (P : Program) : List Field → Nat → Option (List ScK)
  | [], _ => some []
  | f :: r, off => if f.name = "_" ∨ f.offset ≠ off then none else
    match rec f.type, tyOf P f.type with
    | some (ag, sh), some (ag', n) => if ag' = ag ∧ n = sh.length then (flatF rec P r (off + n)).map (sh ++ ·) else none
    | _, _ => none
/-- The scalars of a type. -/
def flatK (P : Program) : Nat → TypeId → Option (Bool × List ScK)
  | 0, _ => none
  | d + 1, t => match P.underlying t with
    | some .bool => some (false, [.bool])
    | some (.int k) => some (false, [.int k])
    | some .string => some (false, [.str])
    | some (.struct fs) => if P.stoodInHeld t = true then none else (flatF (flatK P d) P fs.toList 0).map fun sh => (true, sh)
    | _ => none

theorem shaped_append {s1 s2 : List ScK} {k : List Sc} (h : shaped (s1 ++ s2) k = true) : ∃ a b, k = a ++ b ∧ shaped s1 a = true ∧ shaped s2 b = true := by
  simp only [shaped, decide_eq_true_eq] at h
  rw [List.map_eq_append_iff] at h
  obtain ⟨a, b, h1, h2, h3⟩ := h
  exact ⟨a, b, h1, by simp [shaped, h2], by simp [shaped, h3]⟩
theorem shaped_len {s : List ScK} {k : List Sc} (h : shaped s k = true) : k.length = s.length := by
  simp only [shaped, decide_eq_true_eq] at h
  rw [← h]; simp
theorem shaped_one {s : ScK} {k : List Sc} (h : shaped [s] k = true) : ∃ x, k = [x] ∧ x.kind = s := by
  have := shaped_len h
  match k, this with
  | [x], _ => exact ⟨x, rfl, by simpa [shaped] using h⟩
theorem flatK_one {P : Program} {d : Nat} {t : TypeId} {sh : List ScK} (h : flatK P d t = some (false, sh)) : ∃ s, sh = [s] := by
  cases d with
  | zero => simp [flatK] at h
  | succ d =>
    unfold flatK at h
    split at h
    · cases h; exact ⟨_, rfl⟩
    · cases h; exact ⟨_, rfl⟩
    · cases h; exact ⟨_, rfl⟩
    · split at h
      · cases h
      · obtain ⟨x, _, e⟩ := Option.map_eq_some_iff.1 h
        cases e
    · cases h

theorem take_key {ag : Bool} {sh : List ScK} {p a b : List Sc} (h1 : ag = false → ∃ s, sh = [s]) (ha : shaped sh a = true) : takeCells (S := S) ag sh.length p.length ((p ++ (a ++ b)).map scTV) = some (keyTV ag a) := by
  have hl := shaped_len ha
  cases ag with
  | true =>
    simp only [takeCells, if_true, keyTV]
    rw [if_pos (by simp; omega)]
    congr 2
    rw [List.map_append, List.drop_append_of_le_length (by simp), List.map_append]
    rw [show List.drop p.length (List.map scTV p) = ([] : List (TV S)) by rw [List.drop_eq_nil_iff]; simp]
    rw [List.nil_append, List.take_append_of_le_length (by simp; omega), List.take_of_length_le (by simp; omega)]
  | false =>
    obtain ⟨s, rfl⟩ := h1 rfl
    obtain ⟨x, rfl, _⟩ := shaped_one ha
    simp [takeCells, keyTV]

theorem flatF_eq {P : Program} {rec : TypeId → Option (Bool × List ScK)} {eq : TypeId → TV S → TV S → Option Bool} (hone : ∀ t sh, rec t = some (false, sh) → ∃ s, sh = [s])
    (heq : ∀ t ag sh, rec t = some (ag, sh) → ∀ k1 k2, shaped sh k1 = true → shaped sh k2 = true → eq t (keyTV ag k1) (keyTV ag k2) = some (decide (k1 = k2))) :
    ∀ (fs : List Field) (off : Nat) (sh : List ScK), flatF rec P fs off = some sh → ∀ (p1 p2 k1 k2 : List Sc), p1.length = off → p2.length = off → shaped sh k1 = true → shaped sh k2 = true →
      eqFields eq P ((p1 ++ k1).map scTV) ((p2 ++ k2).map scTV) fs = some (decide (k1 = k2))
  | [], off, sh, h, p1, p2, k1, k2, _, _, h3, h4 => by
    simp only [flatF, Option.some.injEq] at h
    subst h
    have e1 := List.eq_nil_of_length_eq_zero (shaped_len h3)
    have e2 := List.eq_nil_of_length_eq_zero (shaped_len h4)
    subst e1; subst e2
    rfl
  | f :: r, off, sh, h, p1, p2, k1, k2, h1, h2, h3, h4 => by
    unfold flatF at h
    split at h
    · cases h
    · rename_i hn
      split at h
      · rename_i ag sh1 ag' n hr ht
        split at h
        · rename_i hc
          obtain ⟨rfl, rfl⟩ := hc
          obtain ⟨sh2, hs2, rfl⟩ := Option.map_eq_some_iff.1 h
          obtain ⟨a1, b1, rfl, ha1, hb1⟩ := shaped_append h3
          obtain ⟨a2, b2, rfl, ha2, hb2⟩ := shaped_append h4
          have hoff : f.offset = off := by
            by_cases e : f.offset = off
            · exact e
            · exact absurd (.inr e) hn
          have hname : ¬ f.name = "_" := fun e => hn (.inl e)
          have hl1 := shaped_len ha1
          have hl2 := shaped_len ha2
          unfold eqFields
          rw [if_neg hname, ht]
          simp only
          rw [hoff]
          have t1 : takeCells (S := S) ag' sh1.length off ((p1 ++ (a1 ++ b1)).map scTV) = some (keyTV ag' a1) := by rw [← h1]; exact take_key (fun e => hone _ _ (e ▸ hr)) ha1
          have t2 : takeCells (S := S) ag' sh1.length off ((p2 ++ (a2 ++ b2)).map scTV) = some (keyTV ag' a2) := by rw [← h2]; exact take_key (fun e => hone _ _ (e ▸ hr)) ha2
          rw [t1, t2]
          simp only
          rw [heq f.type ag' sh1 hr a1 a2 ha1 ha2]
          simp only
          have ih := flatF_eq hone heq r (off + sh1.length) sh2 hs2 (p1 ++ a1) (p2 ++ a2) b1 b2 (by simp; omega) (by simp; omega) hb1 hb2
          rw [List.append_assoc, List.append_assoc] at ih
          rw [ih]
          simp only
          congr 1
          have happ : (a1 ++ b1 = a2 ++ b2) ↔ (a1 = a2 ∧ b1 = b2) := by
            constructor
            · intro e; exact List.append_inj e (by omega)
            · rintro ⟨rfl, rfl⟩; rfl
          by_cases e1 : a1 = a2 <;> by_cases e2 : b1 = b2 <;> simp [happ, e1, e2]
        · cases h
      · cases h

theorem flatK_eq {P : Program} : ∀ (d : Nat) (t : TypeId) (ag : Bool) (sh : List ScK), flatK P d t = some (ag, sh) → ∀ k1 k2, shaped sh k1 = true → shaped sh k2 = true → eqType (S := S) P d t (keyTV ag k1) (keyTV ag k2) = some (decide (k1 = k2))
  | 0, _, _, _, h, _, _, _, _ => by simp [flatK] at h
  | d + 1, t, ag, sh, h, k1, k2, h1, h2 => by
    unfold flatK at h
    unfold eqType
    split at h
    · rename_i hu
      cases h
      obtain ⟨x, rfl, hx⟩ := shaped_one h1
      obtain ⟨y, rfl, hy⟩ := shaped_one h2
      cases x <;> simp [Sc.kind] at hx
      cases y <;> simp [Sc.kind] at hy
      rename_i a b
      simp only [hu, keyTV, Bool.false_eq_true, if_false, scTV, eqScalar, Option.some.injEq]
      cases a <;> cases b <;> rfl
    · rename_i k hu
      cases h
      obtain ⟨x, rfl, hx⟩ := shaped_one h1
      obtain ⟨y, rfl, hy⟩ := shaped_one h2
      cases x <;> simp [Sc.kind] at hx
      cases y <;> simp [Sc.kind] at hy
      subst hx; subst hy
      rename_i a _ b
      simp only [hu, keyTV, Bool.false_eq_true, if_false, scTV, eqScalar, if_true, Option.some.injEq]
      by_cases e : a = b
      · subst e; simp
      · simp [e]
    · rename_i hu
      cases h
      obtain ⟨x, rfl, hx⟩ := shaped_one h1
      obtain ⟨y, rfl, hy⟩ := shaped_one h2
      cases x <;> simp [Sc.kind] at hx
      cases y <;> simp [Sc.kind] at hy
      rename_i a b
      simp only [hu, keyTV, Bool.false_eq_true, if_false, scTV, eqScalar, Option.some.injEq]
      by_cases e : a = b
      · subst e; simp
      · simp [e]
    · rename_i fs hu
      split at h
      · cases h
      · rename_i hst
        obtain ⟨sh', hs', e⟩ := Option.map_eq_some_iff.1 h
        cases e
        simp only [hu, keyTV, if_true]
        rw [if_neg hst]
        exact flatF_eq (fun t sh h => flatK_one h) (fun t ag sh h => flatK_eq d t ag sh h) fs.toList 0 sh hs' [] [] k1 k2 rfl rfl h1 h2
    · cases h

theorem scTV_inv {φ : Phi} {M : Mem} {x : Sc} {v : Value} (h : VR E φ M (scTV x) v) : v = scVal x := by
  cases x with
  | bool b => exact h.bool
  | int k n => exact h.int
  | str s => exact h.str
theorem keyTV_inv {φ : Phi} {M : Mem} {ag : Bool} {k : List Sc} {v : Value} (h : VR E φ M (keyTV ag k) v) : v = keyVal ag k := by
  unfold keyTV at h
  unfold keyVal
  cases ag with
  | true =>
    simp only [if_true] at h ⊢
    obtain ⟨vs, rfl, hl, hc⟩ := h.agg_inv
    congr 1
    apply Array.ext'
    apply List.ext_getElem?
    intro i
    simp only [List.length_map] at hl
    by_cases hi : i < vs.size
    · have e2 : k[i]? = some (k[i]'(by omega)) := List.getElem?_eq_getElem (by omega)
      have e3 : vs[i]? = some vs[i] := Array.getElem?_eq_getElem hi
      have := scTV_inv (hc i _ _ (by rw [List.getElem?_map, e2]; rfl) e3)
      rw [Array.getElem?_toList, e3, this]
      simp [e2]
    · rw [List.getElem?_eq_none_iff.2 (by simp; omega), List.getElem?_eq_none_iff.2 (by simp; omega)]
  | false =>
    simp only [Bool.false_eq_true, if_false] at h ⊢
    split at h
    · exact scTV_inv h
    · rename_i hne
      split
      · rename_i x; exact absurd rfl (hne x)
      · exact h.undef

/-! ### what the model does with keys -/
theorem key_equal {P : Program} {d : Nat} {t : TypeId} {ag : Bool} {sh : List ScK} (hd : d ≤ 10000) (h : flatK P d t = some (ag, sh)) {k1 k2 : List Sc} (h1 : shaped sh k1 = true) (h2 : shaped sh k2 = true) (w : World) :
    (Op.equal t (keyVal ag k1) (keyVal ag k2)).run P w = .ok (decide (k1 = k2)) w := by
  let S : Sig := ⟨Unit, fun _ => Unit, inferInstance, fun _ => false⟩
  let E : Env S := ⟨P, fun _ _ => [], fun _ _ => none, fun _ => 0, fun _ => none, fun _ => none, fun _ _ _ _ _ => none, fun _ _ => false, fun _ _ => false, fun _ => false⟩
  exact type_eq (E := E) (φ := fun _ => none) (M := fun _ _ => none) w d 10000 t (keyTV ag k1) (keyTV ag k2) _ _ _ hd (flatK_eq d t ag sh h k1 k2 h1 h2) (keyTV_VR _ _ _ _ _) (keyTV_VR _ _ _ _ _)

theorem key_part {P : Program} {t : TypeId} {ag : Bool} {sh : List ScK} {p a b : List Sc} (ht : tyOf P t = some (ag, sh.length)) (h1 : ag = false → ∃ s, sh = [s]) (ha : shaped sh a = true) (w : World) :
    (part t (((p ++ (a ++ b)).map scVal).toArray) p.length).run P w = .ok (keyVal ag a) w := by
  let S : Sig := ⟨Unit, fun _ => Unit, inferInstance, fun _ => false⟩
  let E : Env S := ⟨P, fun _ _ => [], fun _ _ => none, fun _ => 0, fun _ => none, fun _ => none, fun _ _ _ _ _ => none, fun _ _ => false, fun _ _ => false, fun _ => false⟩
  obtain ⟨v, hv, hr⟩ := run_part (E := E) (φ := fun _ => none) (M := fun _ _ => none) (cs := (p ++ (a ++ b)).map scTV) (vs := ((p ++ (a ++ b)).map scVal).toArray) (tv := keyTV ag a) w ht (take_key h1 ha) (by simp) (fun i x v hx hv => by
    rw [List.getElem?_map] at hx
    obtain ⟨y, hy, rfl⟩ := Option.map_eq_some_iff.1 hx
    rw [List.getElem?_toArray, List.getElem?_map, hy] at hv
    simp only [Option.map_some, Option.some.injEq] at hv
    subst hv
    exact scTV_VR _ _ _ y)
  rw [hv, keyTV_inv hr]

theorem checkF {P : Program} {em : Bool} {D : Nat} {w : World} {rec : TypeId → Option (Bool × List ScK)} (hone : ∀ t sh, rec t = some (false, sh) → ∃ s, sh = [s])
    (hrec : ∀ t ag sh, rec t = some (ag, sh) → ∀ k, shaped sh k = true → (Instr.checkKey em D t (keyVal ag k)).run P w = .ok () w) :
    ∀ (fs : List Field) (off : Nat) (sh : List ScK), flatF rec P fs off = some sh → ∀ (p k : List Sc), p.length = off → shaped sh k = true →
      (forIn fs PUnit.unit fun f _ => do
        if f.name ≠ "_" then
          Instr.checkKey em D f.type (← part f.type ((p ++ k).map scVal).toArray f.offset)
          pure (ForInStep.yield PUnit.unit)
        else pure (ForInStep.yield PUnit.unit) : Sem PUnit).run P w = .ok PUnit.unit w
  | [], off, sh, h, p, k, h1, h2 => by simp
  | f :: r, off, sh, h, p, k, h1, h2 => by
    unfold flatF at h
    split at h
    · cases h
    · rename_i hn
      split at h
      · rename_i ag sh1 ag' n hr ht
        split at h
        · rename_i hc
          obtain ⟨rfl, rfl⟩ := hc
          obtain ⟨sh2, hs2, rfl⟩ := Option.map_eq_some_iff.1 h
          obtain ⟨a1, b1, rfl, ha1, hb1⟩ := shaped_append h2
          have hoff : f.offset = off := by
            by_cases e : f.offset = off
            · exact e
            · exact absurd (.inr e) hn
          have hname : f.name ≠ "_" := fun e => hn (.inl e)
          have hp := key_part (P := P) (p := p) (b := b1) ht (fun e => hone _ _ (e ▸ hr)) ha1 w
          rw [h1, ← hoff] at hp
          have hck := hrec f.type ag' sh1 hr a1 ha1
          have ih := checkF hone hrec r (off + sh1.length) sh2 hs2 (p ++ a1) b1 (by simp [h1, shaped_len ha1]) hb1
          rw [List.append_assoc] at ih
          simp only [List.forIn_cons, Sem.run_bind, hname, ne_eq, not_false_eq_true, if_true, Result.andThen_ok, hp, hck, Sem.run_pure]
          exact ih
        · cases h
      · cases h

theorem key_check {P : Program} {em : Bool} {w : World} : ∀ (d D : Nat) (t : TypeId) (ag : Bool) (sh : List ScK), d ≤ D → flatK P d t = some (ag, sh) → ∀ k, shaped sh k = true → (Instr.checkKey em D t (keyVal ag k)).run P w = .ok () w
  | 0, _, _, _, _, _, h, _, _ => by simp [flatK] at h
  | d + 1, 0, _, _, _, hd, _, _, _ => by omega
  | d + 1, D + 1, t, ag, sh, hd, h, k, h1 => by
    unfold flatK at h
    split at h
    · rename_i hu
      cases h
      obtain ⟨x, rfl, hx⟩ := shaped_one h1
      cases x <;> simp [Sc.kind] at hx
      simp [Instr.checkKey, Go.run_underlying hu, keyVal, scVal]
    · rename_i k hu
      cases h
      obtain ⟨x, rfl, hx⟩ := shaped_one h1
      cases x <;> simp [Sc.kind] at hx
      simp [Instr.checkKey, Go.run_underlying hu, keyVal, scVal]
    · rename_i hu
      cases h
      obtain ⟨x, rfl, hx⟩ := shaped_one h1
      cases x <;> simp [Sc.kind] at hx
      simp [Instr.checkKey, Go.run_underlying hu, keyVal, scVal]
    · rename_i fs hu
      split at h
      · cases h
      · rename_i hst
        obtain ⟨sh', hs', e⟩ := Option.map_eq_some_iff.1 h
        cases e
        have := checkF (P := P) (em := em) (D := D) (w := w) (fun t sh h => flatK_one h) (fun t ag sh h k hk => key_check d D t ag sh (by omega) h k hk) fs.toList 0 sh hs' [] k rfl h1
        simp only [keyVal, if_true]
        rw [Instr.checkKey]
        simp only [Sem.run_bind, Go.run_underlying hu, Result.andThen_ok]
        rw [← Array.forIn_toList]
        rw [List.nil_append] at this
        simp only [this, Result.andThen_ok, Sem.run_pure]
    · cases h

theorem ba_beq (a b : List UInt8) : ((⟨a.toArray⟩ : ByteArray) == ⟨b.toArray⟩) = (a == b) := by rw [beq_toListBytes, beq_bytes]
theorem sameBits_sc (n : Nat) (x : Sc) : Instr.sameBits n (scVal x) (scVal x) = true := by
  cases x <;> cases n <;> simp [scVal, Instr.sameBits, ba_beq]
theorem key_stays {P : Program} {w : World} {ag : Bool} (k : List Sc) (hk : ag = false → ∃ x, k = [x]) : (Instr.keyThatStays (keyVal ag k) (keyVal ag k)).run P w = .ok (keyVal ag k) w := by
  have h : Instr.sameBits 10000 (keyVal ag k) (keyVal ag k) = true := by
    cases ag with
    | false =>
      obtain ⟨x, rfl⟩ := hk rfl
      simp only [keyVal, Bool.false_eq_true, if_false]
      exact sameBits_sc _ x
    | true =>
      simp only [keyVal, if_true]
      rw [show (10000 : Nat) = 9999 + 1 from rfl, Instr.sameBits]
      simp only [beq_self_eq_true, Bool.true_and]
      rw [List.all_eq_true]
      intro p hp
      obtain ⟨a, b⟩ := p
      have : a = b ∧ a ∈ (k.map scVal) := by
        simp only [List.mem_iff_getElem?] at hp ⊢
        obtain ⟨i, hi⟩ := hp
        rw [List.getElem?_zip_eq_some] at hi
        simp at hi
        obtain ⟨⟨x, hx, hxa⟩, ⟨y, hy, hyb⟩⟩ := hi
        rw [hx] at hy; cases hy
        exact ⟨by rw [← hxa, ← hyb], i, by simp [hx, hxa]⟩
      obtain ⟨rfl, hm⟩ := this
      obtain ⟨x, _, rfl⟩ := List.mem_map.1 hm
      exact sameBits_sc _ x
  unfold Instr.keyThatStays
  rw [if_pos h]
  rfl

theorem findAsking_key {P : Program} {d : Nat} {t : TypeId} {ag : Bool} {sh : List ScK} (hd : d ≤ 10000) (h : flatK P d t = some (ag, sh)) {q : List Sc} (hq : shaped sh q = true) (w : World) : ∀ (es : List MapEntry) (ks : List (List Sc)) (i : Nat), es.map (·.key) = ks.map (keyVal ag) → (∀ k ∈ ks, shaped sh k = true) →
    (Instr.findAsking t (keyVal ag q) es i).run P w = .ok (findAt q ks es i) w
  | [], [], i, _, _ => by simp [Instr.findAsking, findAt]
  | [], _ :: _, _, h, _ => by simp at h
  | _ :: _, [], _, h, _ => by simp at h
  | e :: es, k :: ks, i, he, hk => by
    simp only [List.map_cons, List.cons.injEq] at he
    have heq := key_equal hd h hq (hk k (by simp)) w
    have ih := findAsking_key hd h hq w es ks (i + 1) he.2 (fun x hx => hk x (by simp [hx]))
    unfold Instr.findAsking
    rw [he.1]
    simp only [Sem.run_bind, heq, Result.andThen_ok]
    by_cases e1 : k = q
    · subst e1; simp [findAt]
    · have e2 : ¬ q = k := fun e => e1 e.symm
      simp [findAt, e1, e2, ih]

theorem sameNow_eq {P : Program} {d : Nat} {t : TypeId} {sh : List ScK} {td : TypeDesc} (hu : P.underlying t = some td) (h : flatK P (d + 1) t = some (false, sh)) {k1 k2 : List Sc} (h1 : shaped sh k1 = true) (h2 : shaped sh k2 = true) : Instr.sameNow td (keyVal false k1) (keyVal false k2) = some (decide (k1 = k2)) := by
  unfold flatK at h
  rw [hu] at h
  split at h
  · rename_i e
    cases e; cases h
    obtain ⟨x, rfl, hx⟩ := shaped_one h1
    obtain ⟨y, rfl, hy⟩ := shaped_one h2
    cases x <;> simp [Sc.kind] at hx
    cases y <;> simp [Sc.kind] at hy
    rename_i a b
    cases a <;> cases b <;> rfl
  · rename_i e
    cases e; cases h
    obtain ⟨x, rfl, hx⟩ := shaped_one h1
    obtain ⟨y, rfl, hy⟩ := shaped_one h2
    cases x <;> simp [Sc.kind] at hx
    cases y <;> simp [Sc.kind] at hy
    subst hx; subst hy
    rename_i a _ b
    by_cases e : a = b
    · subst e; simp [keyVal, scVal, Instr.sameNow]
    · simp [keyVal, scVal, Instr.sameNow, e]
  · rename_i e
    cases e; cases h
    obtain ⟨x, rfl, hx⟩ := shaped_one h1
    obtain ⟨y, rfl, hy⟩ := shaped_one h2
    cases x <;> simp [Sc.kind] at hx
    cases y <;> simp [Sc.kind] at hy
    rename_i a b
    by_cases e : a = b
    · subst e; simp [keyVal, scVal, Instr.sameNow, ba_beq]
    · simp [keyVal, scVal, Instr.sameNow, ba_beq, e]
  · split at h
    · cases h
    · obtain ⟨_, _, e⟩ := Option.map_eq_some_iff.1 h
      cases e
  · cases h

theorem findNow_key {td : TypeDesc} {sh : List ScK} (hs : ∀ k1 k2, shaped sh k1 = true → shaped sh k2 = true → Instr.sameNow td (keyVal false k1) (keyVal false k2) = some (decide (k1 = k2))) {q : List Sc} (hq : shaped sh q = true) : ∀ (es : List MapEntry) (ks : List (List Sc)) (i : Nat), es.map (·.key) = ks.map (keyVal false) → (∀ k ∈ ks, shaped sh k = true) →
    Instr.findNow td (keyVal false q) es i = some (findAt q ks es i)
  | [], [], i, _, _ => by simp [Instr.findNow, findAt]
  | [], _ :: _, _, h, _ => by simp at h
  | _ :: _, [], _, h, _ => by simp at h
  | e :: es, k :: ks, i, he, hk => by
    simp only [List.map_cons, List.cons.injEq] at he
    have ih := findNow_key hs hq es ks (i + 1) he.2 (fun x hx => hk x (by simp [hx]))
    unfold Instr.findNow
    rw [he.1, hs q k hq (hk k (by simp))]
    by_cases e1 : k = q
    · subst e1; simp [findAt]
    · have e2 : ¬ q = k := fun e => e1 e.symm
      simp [findAt, e1, e2, ih]

theorem keyLaw {P : Program} {d : Nat} {t : TypeId} {ag : Bool} {sh : List ScK} (hd : d ≤ 10000) (h : flatK P d t = some (ag, sh)) : KLaw P t ag sh where
  check w em k hk := key_check d 10000 t ag sh hd h k hk
  find w q hq es ks he hk := by
    have hask := findAsking_key hd h hq w es ks 0 he hk
    cases d with
    | zero => simp [flatK] at h
    | succ d =>
      have h0 := h
      unfold flatK at h
      cases hu : P.underlying t with
      | none => rw [hu] at h; cases h
      | some td =>
        unfold Instr.findKey
        simp only [Sem.run_bind, Go.run_underlying hu, Result.andThen_ok]
        cases ag with
        | false =>
          rw [findNow_key (fun k1 k2 h1 h2 => sameNow_eq hu h0 h1 h2) hq es ks 0 he hk]
          rfl
        | true =>
          cases hn : Instr.findNow td (keyVal true q) es 0 with
          | none => exact hask
          | some r =>
            have : r = findAt q ks es 0 := by
              cases es with
              | nil =>
                simp [Instr.findNow] at hn
                subst hn
                cases ks with
                | nil => rfl
                | cons k ks => simp at he
              | cons e es =>
                exfalso
                cases ks with
                | nil => simp at he
                | cons k ks =>
                  simp only [List.map_cons, List.cons.injEq] at he
                  unfold Instr.findNow at hn
                  rw [he.1] at hn
                  simp [keyVal, Instr.sameNow] at hn
            rw [this]; rfl
  stays w k hk := key_stays k (fun e => by
    subst e
    obtain ⟨s, rfl⟩ := flatK_one h
    obtain ⟨x, rfl, _⟩ := shaped_one hk
    exact ⟨x, rfl⟩)
end TE
