/- EffectMany: rows of marks kept once, and sets of them, in plain words. -/
import Derived.Test.YtfpfmibcnldepaaE20x4
import Derived.Test.YtfpfmibcnldepaaTE23
set_option maxRecDepth 100000
set_option linter.unusedVariables false
set_option linter.unusedSimpArgs false
namespace Ef
open Go TE Go.Proofs
abbrev SetL := List (List Sc × Bool × Nat)
abbrev KnL := List (List Sc × Int × Nat)
def kI (i : Nat) : List Sc := [.int .i64 (i : Int)]
def kM (p : Nat) (m : Mark) : List Sc := [.int .i64 (p : Int), .int .i64 m.Port, .str m.Event]
theorem kI_inj {i j : Nat} (h : kI i = kI j) : i = j := by simp [kI] at h; omega
theorem kM_inj {p q : Nat} {m n : Mark} (h : kM p m = kM q n) : p = q ∧ m = n := by
  obtain ⟨a, b⟩ := m
  obtain ⟨c, d⟩ := n
  simp [kM] at h
  obtain ⟨h1, h2, h3⟩ := h
  subst h2 h3
  exact ⟨by omega, rfl⟩
theorem findM_upd {α : Type} {q q' : List Sc} {y : α} {cl : Nat} : ∀ {L : List (List Sc × α × Nat)}, findM q' (updM q y cl L) = if q = q' then some y else findM q' L
  | [] => by simp only [updM, findM]
  | e :: r => by
    simp only [updM]
    by_cases h : e.1 = q
    · rw [if_pos h]
      simp only [findM]
      by_cases h2 : q = q'
      · simp [h2]
      · rw [if_neg h2, if_neg h2, if_neg (by rw [h]; exact h2)]
    · rw [if_neg h]
      simp only [findM]
      rw [findM_upd]
      by_cases h2 : q = q'
      · rw [if_pos h2, if_pos h2, if_neg (by rw [← h2]; exact h)]
      · rw [if_neg h2, if_neg h2]

abbrev MR := List Mark
/-- Rows kept once: D says what each is. -/
structure GD (D : List MR) (l : List Next) (long : List Int) (kn : KnL) : Prop where
  len : l.length = D.length
  z : D[0]? = some []
  lng : long = D.map fun x => (x.length : Int)
  nd : D.Nodup
  nx : ∀ (i : Nat) (y : MR), 0 < i → D[i]? = some y → ∃ (p : Nat) (x : MR) (m : Mark), p < i ∧ D[p]? = some x ∧ y = x ++ [m] ∧ l[i]? = some ⟨(p : Int), m⟩
  kno : ∀ (p : Nat) (x : MR) (m : Mark), D[p]? = some x → (∀ j : Nat, D[j]? = some (x ++ [m]) → findM (kM p m) kn = some (j : Int)) ∧ (x ++ [m] ∉ D → findM (kM p m) kn = none)
  kz : ∀ (p : Nat) (m : Mark), D.length ≤ p → findM (kM p m) kn = none
  sm : ∀ x ∈ D, x.length < D.length
  bnd : D.length ≤ maxRow

theorem GD.pos {D l long kn} (h : GD D l long kn) : 0 < D.length := by
  have := h.z
  cases D with
  | nil => simp at this
  | cons a b => simp
theorem get_lt {α : Type} {D : List α} {i : Nat} {x : α} (h : D[i]? = some x) : i < D.length := (List.getElem?_eq_some_iff.1 h).1
theorem get_mem {α : Type} {D : List α} {i : Nat} {x : α} (h : D[i]? = some x) : x ∈ D := List.mem_of_getElem? h
theorem nd_inj {α : Type} {D : List α} (h : D.Nodup) {i j : Nat} {x : α} (h1 : D[i]? = some x) (h2 : D[j]? = some x) : i = j := (List.getElem?_inj (get_lt h1) h).1 (by rw [h1, h2])
theorem GD.uniq {D l long kn} (h : GD D l long kn) {i j : Nat} {x : MR} (h1 : D[i]? = some x) (h2 : D[j]? = some x) : i = j := by
  exact nd_inj h.nd h1 h2

theorem GD.snoc {D l long kn} (h : GD D l long kn) {p : Nat} {x : MR} {m : Mark} (hp : D[p]? = some x) (hn : x ++ [m] ∉ D) (hb : D.length < maxRow) (cl : Nat) :
    GD (D ++ [x ++ [m]]) (l ++ [⟨(p : Int), m⟩]) (long ++ [((x.length + 1 : Nat) : Int)]) (updM (kM p m) ((D.length : Nat) : Int) cl kn) where
  len := by simp [h.len]
  z := by rw [List.getElem?_append_left h.pos]; exact h.z
  lng := by simp [h.lng]
  nd := by rw [List.nodup_append]; refine ⟨h.nd, by simp, ?_⟩; intro a ha b hb e; simp at hb; subst hb; subst e; exact hn ha
  nx := by
    intro i y hi hy
    by_cases hlt : i < D.length
    · rw [List.getElem?_append_left hlt] at hy
      obtain ⟨q, x', m', h1, h2, h3, h4⟩ := h.nx i y hi hy
      exact ⟨q, x', m', h1, by rw [List.getElem?_append_left (by omega)]; exact h2, h3, by rw [List.getElem?_append_left (by rw [h.len]; exact hlt)]; exact h4⟩
    · have := get_lt hy
      simp at this
      have e : i = D.length := by omega
      subst e
      rw [List.getElem?_append_right (Nat.le_refl _)] at hy
      simp at hy
      subst hy
      refine ⟨p, x, m, get_lt hp, by rw [List.getElem?_append_left (get_lt hp)]; exact hp, rfl, ?_⟩
      rw [← h.len, List.getElem?_append_right (Nat.le_refl _)]
      simp
  kno := by
    intro q y n hq
    rw [findM_upd]
    by_cases hlt : q < D.length
    · rw [List.getElem?_append_left hlt] at hq
      by_cases hk : kM p m = kM q n
      · obtain ⟨rfl, rfl⟩ := kM_inj hk
        rw [if_pos rfl]
        rw [hp] at hq
        cases hq
        refine ⟨fun j hj => ?_, fun hj => absurd (by simp) hj⟩
        by_cases hjl : j < D.length
        · rw [List.getElem?_append_left hjl] at hj
          exact absurd (get_mem hj) hn
        · have := get_lt hj
          simp at this
          have : j = D.length := by omega
          rw [this]
      · rw [if_neg hk]
        refine ⟨fun j hj => ?_, fun hj => (h.kno q y n hq).2 fun h' => hj (List.mem_append_left _ h')⟩
        by_cases hjl : j < D.length
        · rw [List.getElem?_append_left hjl] at hj
          exact (h.kno q y n hq).1 j hj
        · have h5 := get_lt hj
          simp at h5
          have e : j = D.length := by omega
          subst e
          rw [List.getElem?_append_right (Nat.le_refl _)] at hj
          simp at hj
          obtain ⟨e1, e2⟩ := hj
          subst e1
          exfalso
          exact hk (by rw [h.uniq hp hq, e2])
    · have h5 := get_lt hq
      simp at h5
      have e : q = D.length := by omega
      subst e
      rw [List.getElem?_append_right (Nat.le_refl _)] at hq
      simp at hq
      subst hq
      have hne : ¬ kM p m = kM D.length n := fun hk => by
        have := (kM_inj hk).1
        have := get_lt hp
        omega
      rw [if_neg hne]
      refine ⟨fun j hj => ?_, fun _ => ?_⟩
      · exfalso
        by_cases hjl : j < D.length
        · rw [List.getElem?_append_left hjl] at hj
          have hj0 : 0 < j := by
            rcases Nat.eq_zero_or_pos j with e0 | e0
            · subst e0; rw [h.z] at hj; simp at hj
            · exact e0
          obtain ⟨q', x', m', h1, h2, h3, h4⟩ := h.nx j _ hj0 hj
          have : x' = x ++ [m] := (List.append_inj' h3 rfl).1.symm
          subst this
          exact hn (get_mem h2)
        · have h6 := get_lt hj
          simp at h6
          have e : j = D.length := by omega
          subst e
          rw [List.getElem?_append_right (Nat.le_refl _)] at hj
          simp at hj
      · exact h.kz _ _ (Nat.le_refl _)
  kz := by
    intro q n hq
    simp at hq
    rw [findM_upd, if_neg fun hk => by
      have := (kM_inj hk).1
      have := get_lt hp
      omega]
    exact h.kz _ _ (by omega)
  sm := by
    intro y hy
    simp only [List.length_append, List.length_cons, List.length_nil]
    rcases List.mem_append.1 hy with h1 | h1
    · have := h.sm y h1; omega
    · simp at h1; subst h1
      have := h.sm x (get_mem hp)
      simp; omega
  bnd := by simp only [List.length_append, List.length_cons, List.length_nil]; omega

theorem more_ok {R : Type} {N : Nat} {D l long kn} (h : GD D l long kn) {p : Nat} {x : MR} {m : Mark} (hp : D[p]? = some x) (hb : D.length < maxRow) {V P T : List (List UInt8)} {Nd : List Node} {many : Bool} {cl : Nat} {k0 : Int → Option R} {k1 : Int → KnL → Nat → List Next → List Int → Option R} {r : R}
    (h0 : ∀ i : Nat, D[i]? = some (x ++ [m]) → k0 i = some r)
    (h1 : ∀ kn' cl' l' long', x ++ [m] ∉ D → GD (D ++ [x ++ [m]]) l' long' kn' → k1 ((D.length : Nat) : Int) kn' cl' l' long' = some r) :
    effect_rows_more N (p : Int) m.Port m.Event V P T Nd many l long kn cl k0 k1 = some r := by
  unfold effect_rows_more
  have hpl := get_lt hp
  by_cases hm : x ++ [m] ∈ D
  · obtain ⟨i, hi⟩ := List.getElem?_of_mem hm
    have := (h.kno p x m hp).1 i hi
    unfold kM at this
    rw [this]
    simp only [Option.isSome_some, if_true, Option.getD_some]
    exact h0 i hi
  · have := (h.kno p x m hp).2 hm
    unfold kM at this
    rw [this]
    simp only [Option.isSome_none, Bool.false_eq_true, if_false]
    have hl : l.length = D.length := h.len
    have hlo : long.length = D.length := by rw [h.lng]; simp
    rw [if_pos (by simp [hl]; omega), if_pos ⟨by omega, by omega⟩]
    have e : long[(p : Int).toNat]? = some (x.length : Int) := by
      rw [h.lng, List.getElem?_map]
      simp [hp]
    rw [e]
    simp only []
    have hx := h.sm x (get_mem hp)
    have hw : IntKind.wrap .i64 ((x.length : Int) + 1) = ((x.length + 1 : Nat) : Int) := by rw [wr _ (by omega) (by simp only [maxRow] at hb; omega)]; omega
    rw [if_pos (by simp [hlo]; omega), hw]
    have hl2 : IntKind.wrap .i64 ((((l ++ [(⟨(p : Int), (⟨m.Port, m.Event⟩ : Mark)⟩ : Next)]).length : Nat) : Int) - 1) = ((D.length : Nat) : Int) := by
      rw [wr _ (by simp) (by simp [hl]; simp only [maxRow] at hb; omega)]
      simp [hl]
    rw [hl2]
    exact h1 _ _ _ _ hm (h.snoc hp hm hb cl)

/-- A set over these rows: what is in it, as they stand. -/
structure SetIs (D : List MR) (s : SetL) (cl : Nat) (X : List MR) : Prop where
  ex : ∃ js : List Nat, js.Nodup ∧ s.map (·.1) = js.map kI ∧ js.map (fun i => D[i]?) = X.map some
  lt : ∀ e ∈ s, e.2.2 < cl
  st : (s.map (·.2.2)).Nodup

theorem SetIs.mono {D D' s cl X} (h : SetIs D s cl X) (hd : D <+: D') : SetIs D' s cl X := by
  obtain ⟨⟨js, h1, h2, h3⟩, h4, h5⟩ := h
  refine ⟨⟨js, h1, h2, ?_⟩, h4, h5⟩
  rw [← h3]
  refine List.map_congr_left fun i hi => ?_
  obtain ⟨E, rfl⟩ := hd
  have : D[i]? ∈ X.map some := by rw [← h3]; exact List.mem_map.2 ⟨i, hi, rfl⟩
  obtain ⟨x, _, hx⟩ := List.mem_map.1 this
  rw [List.getElem?_append_left (get_lt hx.symm)]

theorem SetIs.len {D s cl X} (h : SetIs D s cl X) : s.length = X.length := by
  obtain ⟨⟨js, h1, h2, h3⟩, h4, h5⟩ := h
  have a := congrArg List.length h2
  have b := congrArg List.length h3
  simp at a b
  omega

theorem map_some_inj {α : Type} : ∀ {a b : List α}, a.map some = b.map some → a = b := by
  intro a b h
  exact (List.map_inj_right (f := some) (fun x y e => Option.some.inj e)).1 h

theorem nodup_of {D : List MR} (hD : D.Nodup) : ∀ {js : List Nat} {X : List MR}, js.Nodup → js.map (fun i => D[i]?) = X.map some → X.Nodup
  | [], [], _, _ => List.nodup_nil
  | [], _ :: _, _, h => by simp at h
  | _ :: _, [], _, h => by simp at h
  | j :: js, x :: X, hn, h => by
    simp only [List.map_cons, List.cons.injEq] at h
    rw [List.nodup_cons] at hn ⊢
    refine ⟨fun hx => ?_, nodup_of hD hn.2 h.2⟩
    have : some x ∈ X.map some := List.mem_map.2 ⟨x, hx, rfl⟩
    rw [← h.2] at this
    obtain ⟨i, hi, e⟩ := List.mem_map.1 this
    have : i = j := nd_inj hD e h.1
    exact hn.1 (this ▸ hi)
theorem SetIs.nodup {D s cl X} (h : SetIs D s cl X) (hD : D.Nodup) : X.Nodup := by
  obtain ⟨⟨js, h1, h2, h3⟩, h4, h5⟩ := h
  exact nodup_of hD h1 h3
theorem SetIs.sub {D s cl X} (h : SetIs D s cl X) : ∀ x ∈ X, x ∈ D := by
  obtain ⟨⟨js, h1, h2, h3⟩, h4, h5⟩ := h
  intro x hx
  have : some x ∈ X.map some := List.mem_map.2 ⟨x, hx, rfl⟩
  rw [← h3] at this
  obtain ⟨i, hi, e⟩ := List.mem_map.1 this
  exact get_mem e
/-- The entry of a row. -/
theorem SetIs.ent {D s cl X} (h : SetIs D s cl X) {e : List Sc × Bool × Nat} (he : e ∈ s) : ∃ (i : Nat) (x : MR), e.1 = kI i ∧ D[i]? = some x ∧ x ∈ X := by
  obtain ⟨⟨js, h1, h2, h3⟩, h4, h5⟩ := h
  have : e.1 ∈ js.map kI := by rw [← h2]; exact List.mem_map.2 ⟨e, he, rfl⟩
  obtain ⟨i, hi, ei⟩ := List.mem_map.1 this
  have : D[i]? ∈ X.map some := by rw [← h3]; exact List.mem_map.2 ⟨i, hi, rfl⟩
  obtain ⟨x, hx, ex⟩ := List.mem_map.1 this
  exact ⟨i, x, ei.symm, ex.symm, hx⟩
theorem SetIs.of {D s cl X} (h : SetIs D s cl X) {x : MR} (hx : x ∈ X) : ∃ (e : List Sc × Bool × Nat) (i : Nat), e ∈ s ∧ e.1 = kI i ∧ D[i]? = some x := by
  obtain ⟨⟨js, h1, h2, h3⟩, h4, h5⟩ := h
  have : some x ∈ X.map some := List.mem_map.2 ⟨x, hx, rfl⟩
  rw [← h3] at this
  obtain ⟨i, hi, ei⟩ := List.mem_map.1 this
  have : kI i ∈ s.map (·.1) := by rw [h2]; exact List.mem_map.2 ⟨i, hi, rfl⟩
  obtain ⟨e, he, ee⟩ := List.mem_map.1 this
  exact ⟨e, i, he, ee, ei⟩
theorem SetIs.nil (D : List MR) (cl : Nat) : SetIs D [] cl [] := ⟨⟨[], by simp, rfl, rfl⟩, by simp, by simp⟩

instance : DecidableEq Mark := fun a b => decidable_of_iff (eqM a b = true) eqM_iff
def ins (X : List MR) (x : MR) : List MR := if x ∈ X then X else X ++ [x]
theorem mem_ins {X : List MR} {x y : MR} : y ∈ ins X x ↔ y ∈ X ∨ y = x := by
  unfold ins
  split
  · constructor
    · exact .inl
    · rintro (h | rfl)
      · exact h
      · assumption
  · simp
theorem SetIs.put {D s cl X} (h : SetIs D s cl X) (hD : D.Nodup) {i : Nat} {x : MR} (hi : D[i]? = some x) : SetIs D (updM (kI i) true cl s) (if (findM (kI i) s).isSome = true then cl else cl + 1) (ins X x) := by
  obtain ⟨⟨js, h1, h2, h3⟩, h4, h5⟩ := h
  have hkn : (s.map (·.1)).Nodup := by
    rw [h2]
    exact List.pairwise_map.2 (h1.imp fun hne e => hne (kI_inj e))
  by_cases hx : x ∈ X
  · have : some x ∈ X.map some := List.mem_map.2 ⟨x, hx, rfl⟩
    rw [← h3] at this
    obtain ⟨j, hj, e⟩ := List.mem_map.1 this
    have : j = i := nd_inj hD e hi
    subst this
    have hmem : kI j ∈ s.map (·.1) := by rw [h2]; exact List.mem_map.2 ⟨j, hj, rfl⟩
    rw [if_pos (findM_some.2 hmem), updM_map hkn hmem]
    unfold ins
    rw [if_pos hx]
    refine ⟨⟨js, h1, ?_, h3⟩, ?_, ?_⟩
    · rw [← h2, List.map_map]
      refine List.map_congr_left fun t ht => ?_
      simp only [Function.comp]
      split
      · rename_i e; exact e.symm
      · rfl
    · intro e he
      obtain ⟨t, ht, rfl⟩ := List.mem_map.1 he
      split
      · exact h4 t ht
      · exact h4 t ht
    · rw [List.map_map]
      have : ((fun x : List Sc × Bool × Nat => x.2.2) ∘ fun t => if t.1 = kI j then (kI j, true, t.2.2) else t) = fun t => t.2.2 := by
        funext t
        simp only [Function.comp]
        split <;> rfl
      rw [this]
      exact h5
  · have hmem : kI i ∉ s.map (·.1) := by
      rw [h2]
      intro hm
      obtain ⟨j, hj, e⟩ := List.mem_map.1 hm
      have := kI_inj e
      subst this
      have : D[j]? ∈ X.map some := by rw [← h3]; exact List.mem_map.2 ⟨j, hj, rfl⟩
      rw [hi] at this
      obtain ⟨y, hy, e⟩ := List.mem_map.1 this
      cases e
      exact hx hy
    rw [if_neg fun h => hmem (findM_some.1 h), updM_app hmem]
    unfold ins
    rw [if_neg hx]
    refine ⟨⟨js ++ [i], ?_, ?_, ?_⟩, ?_, ?_⟩
    · rw [List.nodup_append]
      refine ⟨h1, by simp, ?_⟩
      intro a ha b hb e
      simp at hb
      subst hb; subst e
      exact hmem (by rw [h2]; exact List.mem_map.2 ⟨a, ha, rfl⟩)
    · simp [h2]
    · simp [h3, hi]
    · intro e he
      rcases List.mem_append.1 he with h | h
      · exact Nat.lt_succ_of_lt (h4 e h)
      · simp at h; subst h; simp
    · rw [List.map_append, List.nodup_append]
      refine ⟨h5, by simp, ?_⟩
      intro a ha b hb e
      simp at hb
      obtain ⟨t, ht, rfl⟩ := List.mem_map.1 ha
      have := h4 t ht
      omega

def small (X : List MR) : Bool := decide (X.length ≤ 64) && X.all fun x => decide (x.length ≤ 64)
theorem put_eq {R : Type} {N : Nat} {D l long kn s cl X} (h : GD D l long kn) (hs : SetIs D s cl X) {i : Nat} {x : MR} (hi : D[i]? = some x) {V P T : List (List UInt8)} {Nd : List Node} {many : Bool} {kcl : Nat} {k0 : Bool → SetL → Nat → Option R} :
    ∃ s' cl', SetIs D s' cl' (ins X x) ∧ effect_rows_put N (i : Int) V P T Nd many l long kn kcl s cl k0 = k0 (many || decide (64 < (ins X x).length) || decide (64 < x.length)) s' cl' := by
  refine ⟨_, _, hs.put h.nd hi, ?_⟩
  unfold effect_rows_put
  have hlen := (hs.put h.nd hi).len
  have hlo : long.length = D.length := by rw [h.lng]; simp
  have hil := get_lt hi
  rw [if_pos ⟨by omega, by omega⟩]
  have e : long[(i : Int).toNat]? = some (x.length : Int) := by
    rw [h.lng, List.getElem?_map]
    simp [hi]
  rw [e]
  simp only []
  have e1 : ([Sc.int .i64 (i : Int)] : List Sc) = kI i := rfl
  rw [e1, hlen]
  have d1 : decide ((((ins X x).length : Nat) : Int) > 64) = decide (64 < (ins X x).length) := by
    apply decide_eq_decide.2; omega
  have d2 : decide (((x.length : Nat) : Int) > 64) = decide (64 < x.length) := by
    apply decide_eq_decide.2; omega
  rw [d1, d2]
  generalize decide (64 < (ins X x).length) = a
  generalize decide (64 < x.length) = b
  cases many <;> cases a <;> simp [ifB]
end Ef
