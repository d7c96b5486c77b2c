/- EffectMany: rows of marks kept once, and sets of them, in plain words. -/
import Derived.Test.YtfpfmibcnldepaaGreatEQ
import Derived.Test.YtfpfmibcnldepaaGreatTE23
set_option maxRecDepth 100000
set_option linter.unusedVariables false
set_option linter.unusedSimpArgs false
namespace Ef
open Go TE Go.Proofs
abbrev SetL := List (List Sc × Bool × Nat)
abbrev KnL := List (List Sc × Int × Nat)
def kI (i : Nat) : List Sc := [.int .i64 (i : Int)]
def kM (p : Nat) (m : Mark) : List Sc := [.int .i64 (p : Int), .int .i64 m.Port, .str m.Event]
theorem kI_inj {i j : Nat} (h : kI i = kI j) : i = j := by simp [kI] at h; omega
theorem kM_inj {p q : Nat} {m n : Mark} (h : kM p m = kM q n) : p = q ∧ m = n := by
  obtain ⟨a, b⟩ := m
  obtain ⟨c, d⟩ := n
  simp [kM] at h
  obtain ⟨h1, h2, h3⟩ := h
  subst h2 h3
  exact ⟨by omega, rfl⟩
theorem findM_upd {α : Type} {q q' : List Sc} {y : α} {cl : Nat} : ∀ {L : List (List Sc × α × Nat)}, findM q' (updM q y cl L) = if q = q' then some y else findM q' L
  | [] => by simp only [updM, findM]
  | e :: r => by
    simp only [updM]
    by_cases h : e.1 = q
    · rw [if_pos h]
      simp only [findM]
      by_cases h2 : q = q'
      · simp [h2]
      · rw [if_neg h2, if_neg h2, if_neg (by rw [h]; exact h2)]
    · rw [if_neg h]
      simp only [findM]
      rw [findM_upd]
      by_cases h2 : q = q'
      · rw [if_pos h2, if_pos h2, if_neg (by rw [← h2]; exact h)]
      · rw [if_neg h2, if_neg h2]

abbrev MR := List Mark
/-- Rows kept once: D says what each is. -/
structure GD (D : List MR) (l : List Next) (long : List Int) (kn : KnL) : Prop where
  len : l.length = D.length
  z : D[0]? = some []
  lng : long = D.map fun x => (x.length : Int)
  nd : D.Nodup
  nx : ∀ (i : Nat) (y : MR), 0 < i → D[i]? = some y → ∃ (p : Nat) (x : MR) (m : Mark), p < i ∧ D[p]? = some x ∧ y = x ++ [m] ∧ l[i]? = some ⟨(p : Int), m⟩
  kno : ∀ (p : Nat) (x : MR) (m : Mark), D[p]? = some x → (∀ j : Nat, D[j]? = some (x ++ [m]) → findM (kM p m) kn = some (j : Int)) ∧ (x ++ [m] ∉ D → findM (kM p m) kn = none)
  kz : ∀ (p : Nat) (m : Mark), D.length ≤ p → findM (kM p m) kn = none
  sm : ∀ x ∈ D, x.length < D.length
  bnd : D.length ≤ maxRow

theorem GD.pos {D l long kn} (h : GD D l long kn) : 0 < D.length := by
  have := h.z
  cases D with
  | nil => simp at this
  | cons a b => simp
theorem get_lt {α : Type} {D : List α} {i : Nat} {x : α} (h : D[i]? = some x) : i < D.length := (List.getElem?_eq_some_iff.1 h).1
theorem get_mem {α : Type} {D : List α} {i : Nat} {x : α} (h : D[i]? = some x) : x ∈ D := List.mem_of_getElem? h
theorem nd_inj {α : Type} {D : List α} (h : D.Nodup) {i j : Nat} {x : α} (h1 : D[i]? = some x) (h2 : D[j]? = some x) : i = j := (List.getElem?_inj (get_lt h1) h).1 (by rw [h1, h2])
theorem GD.uniq {D l long kn} (h : GD D l long kn) {i j : Nat} {x : MR} (h1 : D[i]? = some x) (h2 : D[j]? = some x) : i = j := by
  exact nd_inj h.nd h1 h2

theorem GD.snoc {D l long kn} (h : GD D l long kn) {p : Nat} {x : MR} {m : Mark} (hp : D[p]? = some x) (hn : x ++ [m] ∉ D) (hb : D.length < maxRow) (cl : Nat) :
    GD (D ++ [x ++ [m]]) (l ++ [⟨(p : Int), m⟩]) (long ++ [((x.length + 1 : Nat) : Int)]) (updM (kM p m) ((D.length : Nat) : Int) cl kn) where
  len := by simp [h.len]
  z := by rw [List.getElem?_append_left h.pos]; exact h.z
  lng := by simp [h.lng]
  nd := by rw [List.nodup_append]; refine ⟨h.nd, by simp, ?_⟩; intro a ha b hb e; simp at hb; subst hb; subst e; exact hn ha
  nx := by
    intro i y hi hy
    by_cases hlt : i < D.length
    · rw [List.getElem?_append_left hlt] at hy
      obtain ⟨q, x', m', h1, h2, h3, h4⟩ := h.nx i y hi hy
      exact ⟨q, x', m', h1, by rw [List.getElem?_append_left (by omega)]; exact h2, h3, by rw [List.getElem?_append_left (by rw [h.len]; exact hlt)]; exact h4⟩
    · have := get_lt hy
      simp at this
      have e : i = D.length := by omega
      subst e
      rw [List.getElem?_append_right (Nat.le_refl _)] at hy
      simp at hy
      subst hy
      refine ⟨p, x, m, get_lt hp, by rw [List.getElem?_append_left (get_lt hp)]; exact hp, rfl, ?_⟩
      rw [← h.len, List.getElem?_append_right (Nat.le_refl _)]
      simp
  kno := by
    intro q y n hq
    rw [findM_upd]
    by_cases hlt : q < D.length
    · rw [List.getElem?_append_left hlt] at hq
      by_cases hk : kM p m = kM q n
      · obtain ⟨rfl, rfl⟩ := kM_inj hk
        rw [if_pos rfl]
        rw [hp] at hq
        cases hq
        refine ⟨fun j hj => ?_, fun hj => absurd (by simp) hj⟩
        by_cases hjl : j < D.length
        · rw [List.getElem?_append_left hjl] at hj
          exact absurd (get_mem hj) hn
        · have := get_lt hj
          simp at this
          have : j = D.length := by omega
          rw [this]
      · rw [if_neg hk]
        refine ⟨fun j hj => ?_, fun hj => (h.kno q y n hq).2 fun h' => hj (List.mem_append_left _ h')⟩
        by_cases hjl : j < D.length
        · rw [List.getElem?_append_left hjl] at hj
          exact (h.kno q y n hq).1 j hj
        · have h5 := get_lt hj
          simp at h5
          have e : j = D.length := by omega
          subst e
          rw [List.getElem?_append_right (Nat.le_refl _)] at hj
          simp at hj
          obtain ⟨e1, e2⟩ := hj
          subst e1
          exfalso
          exact hk (by rw [h.uniq hp hq, e2])
    · have h5 := get_lt hq
      simp at h5
      have e : q = D.length := by omega
      subst e
      rw [List.getElem?_append_right (Nat.le_refl _)] at hq
      simp at hq
      subst hq
      have hne : ¬ kM p m = kM D.length n := fun hk => by
        have := (kM_inj hk).1
        have := get_lt hp
        omega
      rw [if_neg hne]
      refine ⟨fun j hj => ?_, fun _ => ?_⟩
      · exfalso
        by_cases hjl : j < D.length
        · rw [List.getElem?_append_left hjl] at hj
          have hj0 : 0 < j := by
            rcases Nat.eq_zero_or_pos j with e0 | e0
            · subst e0; rw [h.z] at hj; simp at hj
            · exact e0
          obtain ⟨q', x', m', h1, h2, h3, h4⟩ := h.nx j _ hj0 hj
          have : x' = x ++ [m] := (List.append_inj' h3 rfl).1.symm
          subst this
          exact hn (get_mem h2)
        · have h6 := get_lt hj
          simp at h6
          have e : j = D.length := by omega
          subst e
          rw [List.getElem?_append_right (Nat.le_refl _)] at hj
          simp at hj
      · exact h.kz _ _ (Nat.le_refl _)
  kz := by
    intro q n hq
    simp at hq
    rw [findM_upd, if_neg fun hk => by
      have := (kM_inj hk).1
      have := get_lt hp
      omega]
    exact h.kz _ _ (by omega)
  sm := by
    intro y hy
    simp only [List.length_append, List.length_cons, List.length_nil]
    rcases List.mem_append.1 hy with h1 | h1
    · have := h.sm y h1; omega
    · simp at h1; subst h1
      have := h.sm x (get_mem hp)
      simp; omega
  bnd := by simp only [List.length_append, List.length_cons, List.length_nil]; omega

theorem more_ok {R : Type} {N : Nat} {D l long kn} (h : GD D l long kn) {p : Nat} {x : MR} {m : Mark} (hp : D[p]? = some x) (hb : D.length < maxRow) {V P T : List (List UInt8)} {Nd : List Node} {many : Bool} {cl : Nat} {k0 : Int → Option R} {k1 : Int → KnL → Nat → List Next → List Int → Option R} {r : R}
    (h0 : ∀ i : Nat, D[i]? = some (x ++ [m]) → k0 i = some r)
    (h1 : ∀ kn' cl' l' long', x ++ [m] ∉ D → GD (D ++ [x ++ [m]]) l' long' kn' → k1 ((D.length : Nat) : Int) kn' cl' l' long' = some r) :
    effect_rows_more N (p : Int) m.Port m.Event V P T Nd many l long kn cl k0 k1 = some r := by
  unfold effect_rows_more
  have hpl := get_lt hp
  by_cases hm : x ++ [m] ∈ D
  · obtain ⟨i, hi⟩ := List.getElem?_of_mem hm
    have := (h.kno p x m hp).1 i hi
    unfold kM at this
    rw [this]
    simp only [Option.isSome_some, if_true, Option.getD_some]
    exact h0 i hi
  · have := (h.kno p x m hp).2 hm
    unfold kM at this
    rw [this]
    simp only [Option.isSome_none, Bool.false_eq_true, if_false]
    have hl : l.length = D.length := h.len
    have hlo : long.length = D.length := by rw [h.lng]; simp
    rw [if_pos (by simp [hl]; omega), if_pos ⟨by omega, by omega⟩]
    have e : long[(p : Int).toNat]? = some (x.length : Int) := by
      rw [h.lng, List.getElem?_map]
      simp [hp]
    rw [e]
    simp only []
    have hx := h.sm x (get_mem hp)
    have hw : IntKind.wrap .i64 ((x.length : Int) + 1) = ((x.length + 1 : Nat) : Int) := by rw [wr _ (by omega) (by simp only [maxRow] at hb; omega)]; omega
    rw [if_pos (by simp [hlo]; omega), hw]
    have hl2 : IntKind.wrap .i64 ((((l ++ [(⟨(p : Int), (⟨m.Port, m.Event⟩ : Mark)⟩ : Next)]).length : Nat) : Int) - 1) = ((D.length : Nat) : Int) := by
      rw [wr _ (by simp) (by simp [hl]; simp only [maxRow] at hb; omega)]
      simp [hl]
    rw [hl2]
    exact h1 _ _ _ _ hm (h.snoc hp hm hb cl)

/-- A set over these rows: what is in it, as they stand. -/
structure SetIs (D : List MR) (s : SetL) (cl : Nat) (X : List MR) : Prop where
  ex : ∃ js : List Nat, js.Nodup ∧ s.map (·.1) = js.map kI ∧ js.map (fun i => D[i]?) = X.map some
  lt : ∀ e ∈ s, e.2.2 < cl
  st : (s.map (·.2.2)).Nodup

theorem SetIs.mono {D D' s cl X} (h : SetIs D s cl X) (hd : D <+: D') : SetIs D' s cl X := by
  obtain ⟨⟨js, h1, h2, h3⟩, h4, h5⟩ := h
  refine ⟨⟨js, h1, h2, ?_⟩, h4, h5⟩
  rw [← h3]
  refine List.map_congr_left fun i hi => ?_
  obtain ⟨E, rfl⟩ := hd
  have : D[i]? ∈ X.map some := by rw [← h3]; exact List.mem_map.2 ⟨i, hi, rfl⟩
  obtain ⟨x, _, hx⟩ := List.mem_map.1 this
  rw [List.getElem?_append_left (get_lt hx.symm)]

theorem SetIs.len {D s cl X} (h : SetIs D s cl X) : s.length = X.length := by
  obtain ⟨⟨js, h1, h2, h3⟩, h4, h5⟩ := h
  have a := congrArg List.length h2
  have b := congrArg List.length h3
  simp at a b
  omega

theorem nodup_of {D : List MR} (hD : D.Nodup) : ∀ {js : List Nat} {X : List MR}, js.Nodup → js.map (fun i => D[i]?) = X.map some → X.Nodup
  | [], [], _, _ => List.nodup_nil
  | [], _ :: _, _, h => by simp at h
  | _ :: _, [], _, h => by simp at h
  | j :: js, x :: X, hn, h => by
    simp only [List.map_cons, List.cons.injEq] at h
    rw [List.nodup_cons] at hn ⊢
    refine ⟨fun hx => ?_, nodup_of hD hn.2 h.2⟩
    have : some x ∈ X.map some := List.mem_map.2 ⟨x, hx, rfl⟩
    rw [← h.2] at this
    obtain ⟨i, hi, e⟩ := List.mem_map.1 this
    have : i = j := nd_inj hD e h.1
    exact hn.1 (this ▸ hi)
theorem SetIs.nodup {D s cl X} (h : SetIs D s cl X) (hD : D.Nodup) : X.Nodup := by
  obtain ⟨⟨js, h1, h2, h3⟩, h4, h5⟩ := h
  exact nodup_of hD h1 h3
theorem SetIs.sub {D s cl X} (h : SetIs D s cl X) : ∀ x ∈ X, x ∈ D := by
  obtain ⟨⟨js, h1, h2, h3⟩, h4, h5⟩ := h
  intro x hx
  have : some x ∈ X.map some := List.mem_map.2 ⟨x, hx, rfl⟩
  rw [← h3] at this
  obtain ⟨i, hi, e⟩ := List.mem_map.1 this
  exact get_mem e
/-- The entry of a row. -/
theorem SetIs.ent {D s cl X} (h : SetIs D s cl X) {e : List Sc × Bool × Nat} (he : e ∈ s) : ∃ (i : Nat) (x : MR), e.1 = kI i ∧ D[i]? = some x ∧ x ∈ X := by
  obtain ⟨⟨js, h1, h2, h3⟩, h4, h5⟩ := h
  have : e.1 ∈ js.map kI := by rw [← h2]; exact List.mem_map.2 ⟨e, he, rfl⟩
  obtain ⟨i, hi, ei⟩ := List.mem_map.1 this
  have : D[i]? ∈ X.map some := by rw [← h3]; exact List.mem_map.2 ⟨i, hi, rfl⟩
  obtain ⟨x, hx, ex⟩ := List.mem_map.1 this
  exact ⟨i, x, ei.symm, ex.symm, hx⟩
theorem SetIs.of {D s cl X} (h : SetIs D s cl X) {x : MR} (hx : x ∈ X) : ∃ (e : List Sc × Bool × Nat) (i : Nat), e ∈ s ∧ e.1 = kI i ∧ D[i]? = some x := by
  obtain ⟨⟨js, h1, h2, h3⟩, h4, h5⟩ := h
  have : some x ∈ X.map some := List.mem_map.2 ⟨x, hx, rfl⟩
  rw [← h3] at this
  obtain ⟨i, hi, ei⟩ := List.mem_map.1 this
  have : kI i ∈ s.map (·.1) := by rw [h2]; exact List.mem_map.2 ⟨i, hi, rfl⟩
  obtain ⟨e, he, ee⟩ := List.mem_map.1 this
  exact ⟨e, i, he, ee, ei⟩
theorem SetIs.nil (D : List MR) (cl : Nat) : SetIs D [] cl [] := ⟨⟨[], by simp, rfl, rfl⟩, by simp, by simp⟩

instance : DecidableEq Mark := fun a b => decidable_of_iff (eqM a b = true) eqM_iff
def ins (X : List MR) (x : MR) : List MR := if x ∈ X then X else X ++ [x]
theorem mem_ins {X : List MR} {x y : MR} : y ∈ ins X x ↔ y ∈ X ∨ y = x := by
  unfold ins
  split
  · constructor
    · exact .inl
    · rintro (h | rfl)
      · exact h
      · assumption
  · simp
theorem SetIs.put {D s cl X} (h : SetIs D s cl X) (hD : D.Nodup) {i : Nat} {x : MR} (hi : D[i]? = some x) : SetIs D (updM (kI i) true cl s) (if (findM (kI i) s).isSome = true then cl else cl + 1) (ins X x) := by
  obtain ⟨⟨js, h1, h2, h3⟩, h4, h5⟩ := h
  have hkn : (s.map (·.1)).Nodup := by
    rw [h2]
    exact List.pairwise_map.2 (h1.imp fun hne e => hne (kI_inj e))
  by_cases hx : x ∈ X
  · have : some x ∈ X.map some := List.mem_map.2 ⟨x, hx, rfl⟩
    rw [← h3] at this
    obtain ⟨j, hj, e⟩ := List.mem_map.1 this
    have : j = i := nd_inj hD e hi
    subst this
    have hmem : kI j ∈ s.map (·.1) := by rw [h2]; exact List.mem_map.2 ⟨j, hj, rfl⟩
    rw [if_pos (findM_some.2 hmem), updM_map hkn hmem]
    unfold ins
    rw [if_pos hx]
    refine ⟨⟨js, h1, ?_, h3⟩, ?_, ?_⟩
    · rw [← h2, List.map_map]
      refine List.map_congr_left fun t ht => ?_
      simp only [Function.comp]
      split
      · rename_i e; exact e.symm
      · rfl
    · intro e he
      obtain ⟨t, ht, rfl⟩ := List.mem_map.1 he
      split
      · exact h4 t ht
      · exact h4 t ht
    · rw [List.map_map]
      have : ((fun x : List Sc × Bool × Nat => x.2.2) ∘ fun t => if t.1 = kI j then (kI j, true, t.2.2) else t) = fun t => t.2.2 := by
        funext t
        simp only [Function.comp]
        split <;> rfl
      rw [this]
      exact h5
  · have hmem : kI i ∉ s.map (·.1) := by
      rw [h2]
      intro hm
      obtain ⟨j, hj, e⟩ := List.mem_map.1 hm
      have := kI_inj e
      subst this
      have : D[j]? ∈ X.map some := by rw [← h3]; exact List.mem_map.2 ⟨j, hj, rfl⟩
      rw [hi] at this
      obtain ⟨y, hy, e⟩ := List.mem_map.1 this
      cases e
      exact hx hy
    rw [if_neg fun h => hmem (findM_some.1 h), updM_app hmem]
    unfold ins
    rw [if_neg hx]
    refine ⟨⟨js ++ [i], ?_, ?_, ?_⟩, ?_, ?_⟩
    · rw [List.nodup_append]
      refine ⟨h1, by simp, ?_⟩
      intro a ha b hb e
      simp at hb
      subst hb; subst e
      exact hmem (by rw [h2]; exact List.mem_map.2 ⟨a, ha, rfl⟩)
    · simp [h2]
    · simp [h3, hi]
    · intro e he
      rcases List.mem_append.1 he with h | h
      · exact Nat.lt_succ_of_lt (h4 e h)
      · simp at h; subst h; simp
    · rw [List.map_append, List.nodup_append]
      refine ⟨h5, by simp, ?_⟩
      intro a ha b hb e
      simp at hb
      obtain ⟨t, ht, rfl⟩ := List.mem_map.1 ha
      have := h4 t ht
      omega

def small (X : List MR) : Bool := decide (X.length ≤ 64) && X.all fun x => decide (x.length ≤ 64)
theorem put_eq {R : Type} {N : Nat} {D l long kn s cl X} (h : GD D l long kn) (hs : SetIs D s cl X) {i : Nat} {x : MR} (hi : D[i]? = some x) {V P T : List (List UInt8)} {Nd : List Node} {many : Bool} {kcl : Nat} {k0 : Bool → SetL → Nat → Option R} :
    ∃ s' cl', SetIs D s' cl' (ins X x) ∧ effect_rows_put N (i : Int) V P T Nd many l long kn kcl s cl k0 = k0 (many || decide (64 < (ins X x).length) || decide (64 < x.length)) s' cl' := by
  refine ⟨_, _, hs.put h.nd hi, ?_⟩
  unfold effect_rows_put
  have hlen := (hs.put h.nd hi).len
  have hlo : long.length = D.length := by rw [h.lng]; simp
  have hil := get_lt hi
  rw [if_pos ⟨by omega, by omega⟩]
  have e : long[(i : Int).toNat]? = some (x.length : Int) := by
    rw [h.lng, List.getElem?_map]
    simp [hi]
  rw [e]
  simp only []
  have e1 : ([Sc.int .i64 (i : Int)] : List Sc) = kI i := rfl
  rw [e1, hlen]
  have d1 : decide ((((ins X x).length : Nat) : Int) > 64) = decide (64 < (ins X x).length) := by
    apply decide_eq_decide.2; omega
  have d2 : decide (((x.length : Nat) : Int) > 64) = decide (64 < x.length) := by
    apply decide_eq_decide.2; omega
  rw [d1, d2]
  generalize decide (64 < (ins X x).length) = a
  generalize decide (64 < x.length) = b
  cases many <;> cases a <;> simp [ifB]
/-! ### a row's marks -/
theorem marks_l0 {R : Type} {N : Nat} {D l long kn} (h : GD D l long kn) {V P T : List (List UInt8)} {Nd : List Node} {many : Bool} {kcl : Nat} {kp0 : MR → Option R} :
    ∀ (n i : Nat) (x out : MR), D[i]? = some x → x.length < n → out.length + x.length ≤ maxRow → effect_rows_marks_l0 N V P T Nd many l long kn kcl kp0 n (i : Int) out = kp0 (out ++ x.reverse)
  | 0, _, _, _, _, h2, _ => by omega
  | n + 1, i, x, out, hi, h2, h3 => by
    show effect_rows_marks_l0_b N V P T Nd many l long kn kcl kp0 (effect_rows_marks_l0 N V P T Nd many l long kn kcl kp0 n) (i : Int) out = _
    unfold effect_rows_marks_l0_b
    rcases Nat.eq_zero_or_pos i with e | hp
    · subst e
      rw [h.z] at hi
      cases hi
      simp
    · obtain ⟨p, y, m, h4, h5, h6, h7⟩ := h.nx i x hp hi
      subst h6
      rw [if_pos (by simp; omega)]
      have hil := get_lt hi
      have hl := h.len
      rw [if_pos ⟨by omega, by omega⟩]
      have e : l[(i : Int).toNat]? = some ⟨(p : Int), m⟩ := by simpa using h7
      rw [e]
      simp only []
      have hlen : (y ++ [m]).length = y.length + 1 := by simp
      rw [if_pos (by simp; omega), if_pos ⟨by omega, by omega⟩]
      rw [marks_l0 h n p y (out ++ [m]) h5 (by omega) (by simp; omega)]
      simp
theorem rev_l0 {R : Type} {N : Nat} {kp0 : MR → Option R} : ∀ (n : Nat) (a mid b : MR), a.length = b.length → mid.length < n → (a ++ mid ++ b).length < 2 ^ 62 →
    slices_Reverse_Mark_l0 N kp0 n (a.length : Int) ((a.length : Int) + mid.length - 1) (a ++ mid ++ b) = kp0 (a ++ mid.reverse ++ b)
  | 0, _, _, _, _, h, _ => by omega
  | n + 1, a, mid, b, hab, hn, hb => by
    show slices_Reverse_Mark_l0_b N kp0 (slices_Reverse_Mark_l0 N kp0 n) _ _ _ = _
    unfold slices_Reverse_Mark_l0_b
    match mid, hn, hb with
    | [], _, _ => rw [if_neg (by simp; omega)]; simp
    | [c], _, _ => simp
    | c :: c2 :: r, hn, hb =>
      obtain ⟨m', d, hd⟩ : ∃ m' d, c2 :: r = m' ++ [d] := ⟨(c2 :: r).dropLast, (c2 :: r).getLast (by simp), (List.dropLast_concat_getLast (by simp)).symm⟩
      rw [hd] at hn hb ⊢
      have hlen : (c :: (m' ++ [d])).length = m'.length + 2 := by simp
      rw [hlen] at hn ⊢
      have hb' : (a ++ c :: (m' ++ [d]) ++ b).length = a.length + (m'.length + 2) + b.length := by simp; omega
      have hj : ((a.length : Int) + ((m'.length + 2 : Nat) : Int) - 1) = ((a.length + m'.length + 1 : Nat) : Int) := by omega
      rw [hj, if_pos (by simp; omega)]
      rw [if_pos ⟨by omega, by omega⟩]
      have e1 : (a ++ c :: (m' ++ [d]) ++ b)[((a.length + m'.length + 1 : Nat) : Int).toNat]? = some d := by
        rw [Int.toNat_natCast]
        rw [show a ++ c :: (m' ++ [d]) ++ b = (a ++ c :: m') ++ d :: b by simp]
        rw [List.getElem?_append_right (by simp; omega)]
        simp
        rw [show a.length + m'.length + 1 - (a.length + (m'.length + 1)) = 0 by omega]
        rfl
      have e2 : (a ++ c :: (m' ++ [d]) ++ b)[((a.length : Nat) : Int).toNat]? = some c := by
        rw [Int.toNat_natCast, List.append_assoc, List.getElem?_append_right (Nat.le_refl _)]
        simp
      rw [e1]
      simp only []
      rw [if_pos ⟨by omega, by omega⟩, e2]
      simp only []
      rw [if_pos ⟨by omega, by omega⟩]
      have s1 : (a ++ c :: (m' ++ [d]) ++ b).set ((a.length : Nat) : Int).toNat d = a ++ d :: (m' ++ [d]) ++ b := by
        rw [Int.toNat_natCast, List.append_assoc, List.set_append_right _ _ (Nat.le_refl _)]
        simp
      rw [s1]
      rw [if_pos ⟨by omega, by simp; omega⟩]
      have e3 : (a ++ d :: (m' ++ [d]) ++ b)[((a.length + m'.length + 1 : Nat) : Int).toNat]? = some d := by
        rw [Int.toNat_natCast]
        rw [show a ++ d :: (m' ++ [d]) ++ b = (a ++ d :: m') ++ d :: b by simp]
        rw [List.getElem?_append_right (by simp; omega)]
        simp
        rw [show a.length + m'.length + 1 - (a.length + (m'.length + 1)) = 0 by omega]
        rfl
      rw [e3]
      simp only []
      have s2 : (a ++ d :: (m' ++ [d]) ++ b).set ((a.length + m'.length + 1 : Nat) : Int).toNat c = (a ++ [d]) ++ m' ++ (c :: b) := by
        rw [Int.toNat_natCast]
        rw [show a ++ d :: (m' ++ [d]) ++ b = (a ++ d :: m') ++ d :: b by simp]
        rw [List.set_append_right _ _ (by simp; omega)]
        simp
        rw [show a.length + m'.length + 1 - (a.length + (m'.length + 1)) = 0 by omega]
        rfl
      rw [s2]
      rw [wr _ (by omega) (by omega), wr _ (by omega) (by omega)]
      have := rev_l0 (N := N) (kp0 := kp0) n (a ++ [d]) m' (c :: b) (by simp; omega) (by omega) (by simp; omega)
      have l1 : ((a ++ [d]).length : Int) = (a.length : Int) + 1 := by simp
      rw [l1] at this
      rw [show (((a.length + m'.length + 1 : Nat) : Int) - 1) = (a.length : Int) + 1 + (m'.length : Int) - 1 by omega]
      rw [this]
      simp
theorem reverse_eq {R : Type} {N : Nat} (s : MR) (k : MR → Option R) (h1 : s.length < N) (h2 : s.length < 2 ^ 62) : slices_Reverse_Mark N s k = k s.reverse := by
  unfold slices_Reverse_Mark
  have := rev_l0 (N := N) (kp0 := k) N [] s [] rfl h1 (by simpa using h2)
  simp only [List.nil_append, List.append_nil, List.length_nil] at this
  rw [wr _ (by omega) (by omega)]
  rw [show ((s.length : Int) - 1) = ((0 : Nat) : Int) + (s.length : Int) - 1 by omega]
  exact this
theorem rmarks_eq {R : Type} {N : Nat} (hN : maxRow < N) {D l long kn} (h : GD D l long kn) {V P T : List (List UInt8)} {Nd : List Node} {many : Bool} {kcl : Nat} {k : MR → Option R} {i : Nat} {x : MR} (hi : D[i]? = some x) :
    effect_rows_marks N (i : Int) V P T Nd many l long kn kcl k = k x := by
  unfold effect_rows_marks
  have h1 := h.sm x (get_mem hi)
  have h2 := h.bnd
  rw [marks_l0 h N i x [] hi (by omega) (by simp; omega)]
  simp only [List.nil_append]
  rw [reverse_eq _ _ (by simp; omega) (by simp; simp only [maxRow] at h2; omega)]
  rw [List.reverse_reverse]

/-! ### ranges over maps -/
section
variable {σ α : Type} {L : List (List Sc × α × Nat)} {cl : Nat}
theorem range_ok (hst : (L.map (·.2.2)).Nodup) (hlt : ∀ e ∈ L, e.2.2 < cl)
    (loop : Nat → σ → List Nat → Option Unit) (fin : σ → Option Unit) (body : List Nat → σ → (List Sc × α × Nat) → (σ → Option Unit) → Option Unit)
    (hloop : ∀ n s seen, loop (n + 1) s seen = nextC cl seen cl L (fin s) fun e => body seen s e fun s' => loop n s' (e.2.2 :: seen))
    (I : List (List Sc × α × Nat) → σ → Prop)
    (hbody : ∀ seen V s e rec, I V s → (∀ v ∈ V, v ∈ L) → V.Nodup → e ∈ L → e ∉ V → (∀ s', I (e :: V) s' → rec s' = some ()) → body seen s e rec = some ())
    (hfin : ∀ V s, (∀ e ∈ L, e ∈ V) → (∀ v ∈ V, v ∈ L) → V.Nodup → I V s → fin s = some ()) :
    ∀ (n : Nat) (V : List (List Sc × α × Nat)) (s : σ), I V s → (∀ v ∈ V, v ∈ L) → V.Nodup → unseen (V.map (·.2.2)) L < n → loop n s (V.map (·.2.2)) = some ()
  | 0, _, _, _, _, _, h => by omega
  | n + 1, V, s, hI, hV, hn, h => by
    rw [hloop]
    refine nextC_intro hlt hlt (fun hall => ?_) fun e he hs => ?_
    · refine hfin V s (fun e he => ?_) hV hn hI
      obtain ⟨v, hv, ev⟩ := List.mem_map.1 (hall e he)
      rw [← nodup_inj (f := fun t : List Sc × α × Nat => t.2.2) hst (hV v hv) he ev]
      exact hv
    · have hne : e ∉ V := fun hv => hs (List.mem_map.2 ⟨e, hv, rfl⟩)
      refine hbody _ V s e _ hI hV hn he hne fun s' hI' => ?_
      exact range_ok hst hlt loop fin body hloop I hbody hfin n (e :: V) s' hI' (fun v hv => by rcases List.mem_cons.1 hv with rfl | hv; exact he; exact hV v hv) (List.nodup_cons.2 ⟨hne, hn⟩) (by
        have := unseen_lt he hs
        simp only [List.map_cons]
        omega)
theorem unseen_le (seen : List Nat) (L : List (List Sc × α × Nat)) : unseen seen L ≤ L.length := List.length_filter_le _ _
end

/-! ### sets -/
theorem small_ins {X : List MR} {x : MR} : small (ins X x) = (small X && decide ((ins X x).length ≤ 64) && decide (x.length ≤ 64)) := by
  rw [Bool.eq_iff_iff]
  simp only [small, Bool.and_eq_true, decide_eq_true_eq, List.all_eq_true, mem_ins]
  have hle : X.length ≤ (ins X x).length := by unfold ins; split <;> simp
  constructor
  · rintro ⟨h1, h2⟩
    exact ⟨⟨⟨by omega, fun y hy => h2 y (.inl hy)⟩, h1⟩, h2 x (.inr rfl)⟩
  · rintro ⟨⟨⟨h1, h2⟩, h3⟩, h4⟩
    exact ⟨h3, fun y hy => by rcases hy with h | rfl; exact h2 y h; exact h4⟩
theorem many_ins {many : Bool} {X : List MR} {x : MR} : ((many || !small X) || decide (64 < (ins X x).length) || decide (64 < x.length)) = (many || !small (ins X x)) := by
  rw [small_ins]
  have e1 : decide (64 < (ins X x).length) = !decide ((ins X x).length ≤ 64) := by rw [← decide_not]; apply decide_eq_decide.2; omega
  have e2 : decide (64 < x.length) = !decide (x.length ≤ 64) := by rw [← decide_not]; apply decide_eq_decide.2; omega
  rw [e1, e2]
  cases many <;> cases small X <;> cases decide ((ins X x).length ≤ 64) <;> cases decide (x.length ≤ 64) <;> rfl
theorem nodup_ins {X : List MR} {x : MR} (h : X.Nodup) : (ins X x).Nodup := by
  unfold ins
  split
  · exact h
  · rename_i hx
    rw [List.nodup_append]
    exact ⟨h, by simp, fun a ha b hb e => by simp at hb; subst hb; subst e; exact hx ha⟩
def un (X Y : List MR) : List MR := Y.foldl ins X
theorem mem_un {x : MR} : ∀ {Y X : List MR}, x ∈ un X Y ↔ x ∈ X ∨ x ∈ Y
  | [], X => by simp [un]
  | y :: Y, X => by
    have : un X (y :: Y) = un (ins X y) Y := rfl
    rw [this, mem_un, mem_ins, List.mem_cons]
    constructor
    · rintro ((h | h) | h)
      · exact .inl h
      · exact .inr (.inl h)
      · exact .inr (.inr h)
    · rintro (h | h | h)
      · exact .inl (.inl h)
      · exact .inl (.inr h)
      · exact .inr h
theorem nodup_un : ∀ {Y X : List MR}, X.Nodup → (un X Y).Nodup
  | [], X, h => h
  | y :: Y, X, h => nodup_un (Y := Y) (X := ins X y) (nodup_ins h)
def pr (A B : List MR) : List MR := A.flatMap fun a => B.map (a ++ ·)
theorem mem_pr {A B : List MR} {x : MR} : x ∈ pr A B ↔ ∃ a ∈ A, ∃ b ∈ B, x = a ++ b := by
  simp only [pr, List.mem_flatMap, List.mem_map]
  constructor
  · rintro ⟨a, ha, b, hb, rfl⟩
    exact ⟨a, ha, b, hb, rfl⟩
  · rintro ⟨a, ha, b, hb, rfl⟩
    exact ⟨a, ha, b, hb, rfl⟩
/-- Alike: the same rows. -/
def Alike (X Y : List MR) : Prop := ∀ x, x ∈ X ↔ x ∈ Y
theorem nodup_sub_len {α : Type} [DecidableEq α] : ∀ {X Y : List α}, X.Nodup → (∀ x ∈ X, x ∈ Y) → X.length ≤ Y.length
  | [], _, _, _ => by simp
  | x :: X, Y, hn, hs => by
    rw [List.nodup_cons] at hn
    have hx := hs x (by simp)
    have := nodup_sub_len (X := X) (Y := Y.erase x) hn.2 fun y hy => by
      have hne : y ≠ x := fun e => hn.1 (e ▸ hy)
      exact (List.mem_erase_of_ne hne).2 (hs y (List.mem_cons_of_mem _ hy))
    rw [List.length_erase_of_mem hx] at this
    have := List.length_pos_of_mem hx
    simp only [List.length_cons]
    omega
theorem small_sub {X Y : List MR} (hX : X.Nodup) (hs : ∀ x ∈ X, x ∈ Y) (h : small Y = true) : small X = true := by
  simp only [small, Bool.and_eq_true, decide_eq_true_eq, List.all_eq_true] at h ⊢
  exact ⟨Nat.le_trans (nodup_sub_len hX hs) h.1, fun x hx => h.2 x (hs x hx)⟩
theorem Alike.small {X Y : List MR} (h : Alike X Y) (hX : X.Nodup) (hY : Y.Nodup) : small X = small Y := by
  rw [Bool.eq_iff_iff]
  exact ⟨fun e => small_sub hY (fun x hx => (h x).2 hx) e, fun e => small_sub hX (fun x hx => (h x).1 hx) e⟩
theorem Alike.len {X Y : List MR} (h : Alike X Y) (hX : X.Nodup) (hY : Y.Nodup) : X.length = Y.length :=
  Nat.le_antisymm (nodup_sub_len hX fun x hx => (h x).1 hx) (nodup_sub_len hY fun x hx => (h x).2 hx)
abbrev EntB := List Sc × Bool × Nat
/-- A row that one of these entries names. -/
def AtV (D : List MR) (V : List EntB) (x : MR) : Prop := ∃ e ∈ V, ∃ i, e.1 = kI i ∧ D[i]? = some x
theorem atV_nil {D : List MR} {x : MR} : ¬ AtV D [] x := by rintro ⟨e, he, _⟩; simp at he
theorem atV_cons {D : List MR} {V : List EntB} {e : EntB} {i : Nat} {y x : MR} (h1 : e.1 = kI i) (h2 : D[i]? = some y) : AtV D (e :: V) x ↔ x = y ∨ AtV D V x := by
  constructor
  · rintro ⟨e', he, j, h3, h4⟩
    rcases List.mem_cons.1 he with rfl | he
    · have : j = i := kI_inj (by rw [← h3, h1])
      subst this
      rw [h2] at h4; cases h4
      exact .inl rfl
    · exact .inr ⟨e', he, j, h3, h4⟩
  · rintro (rfl | ⟨e', he, j, h3, h4⟩)
    · exact ⟨e, by simp, i, h1, h2⟩
    · exact ⟨e', List.mem_cons_of_mem _ he, j, h3, h4⟩
theorem atV_all {D : List MR} {V : List EntB} {s : SetL} {cl : Nat} {X : List MR} (h : SetIs D s cl X) (h1 : ∀ e ∈ s, e ∈ V) (h2 : ∀ v ∈ V, v ∈ s) {x : MR} : AtV D V x ↔ x ∈ X := by
  constructor
  · rintro ⟨e, he, i, h3, h4⟩
    obtain ⟨j, y, h5, h6, h7⟩ := h.ent (h2 e he)
    have : i = j := kI_inj (by rw [← h3, h5])
    subst this
    rw [h4] at h6; cases h6
    exact h7
  · intro hx
    obtain ⟨e, i, h3, h4, h5⟩ := h.of hx
    exact ⟨e, h1 e h3, i, h4, h5⟩
theorem atV_sub {D : List MR} {V : List EntB} {s : SetL} {cl : Nat} {X : List MR} (h : SetIs D s cl X) (h2 : ∀ v ∈ V, v ∈ s) {x : MR} (hx : AtV D V x) : x ∈ X := by
  obtain ⟨e, he, i, h3, h4⟩ := hx
  obtain ⟨j, y, h5, h6, h7⟩ := h.ent (h2 e he)
  have : i = j := kI_inj (by rw [← h3, h5])
  subst this
  rw [h4] at h6; cases h6
  exact h7
theorem V_lt {V s : List EntB} {e : EntB} (hs : ∀ v ∈ V, v ∈ s) (hn : V.Nodup) (he : e ∈ s) (hne : e ∉ V) : V.length + 1 ≤ s.length := by
  have := nodup_sub_len (X := e :: V) (Y := s) (List.nodup_cons.2 ⟨hne, hn⟩) fun v hv => by
    rcases List.mem_cons.1 hv with rfl | hv
    · exact he
    · exact hs v hv
  simpa using this
theorem SetIs.le {D s cl X} (h : SetIs D s cl X) (hD : D.Nodup) : X.length ≤ D.length := nodup_sub_len (h.nodup hD) h.sub
theorem scI_kI {i : Nat} : scI (kI i) = (i : Int) := rfl

theorem fail_ok {N : Nat} (hN : maxRow < N) {D l long kn t tcl X f fcl Y} (h : GD D l long kn) (ht : SetIs D t tcl X) (hf : SetIs D f fcl Y) {V P Tm : List (List UInt8)} {Nd : List Node} {many both : Bool} {kcl : Nat}
    (hm : many = false → small Y = true) (hb : both = true → ∀ x ∈ X, x ∈ Y) {k0 : Bool → Bool → SetL → Nat → Option Unit}
    (hk : ∀ f' fcl' Y', SetIs D f' fcl' Y' → (∀ x, x ∈ Y' ↔ x ∈ Y ∨ x ∈ X) → k0 (many || !small Y') true f' fcl' = some ()) :
    effect_rows_fail N V P Tm Nd many l long kn kcl both t tcl f fcl k0 = some () := by
  have hm' : many = (many || !small Y) := by
    cases many
    · rw [hm rfl]; rfl
    · rfl
  unfold effect_rows_fail
  cases both with
  | true =>
    rw [if_pos rfl]
    have := hk f fcl Y hf fun x => ⟨.inl, fun h => h.elim id (hb rfl x)⟩
    rwa [← hm'] at this
  | false =>
    rw [if_neg (by simp)]
    refine range_ok (σ := Bool × SetL × Nat) ht.st ht.lt
      (fun n s seen => effect_rows_fail_l0 N V P Tm Nd l long kn kcl false t tcl tcl (fun (y23 : Bool) (y24 : SetL) (y25 : Nat) => k0 y23 true y24 y25) n s.1 s.2.1 s.2.2 seen tcl)
      (fun s => k0 s.1 true s.2.1 s.2.2)
      (fun _ s n18 rec => if tcl = tcl then (match findB n18.2.2 t with
  | some en19 => (effect_rows_put N (scI en19.1) V P Tm Nd s.1 l long kn kcl s.2.1 s.2.2 (fun (r20 : Bool) (r21 : SetL) (r22 : Nat) =>
  rec (r20, r21, r22)))
  | none => none) else none)
      (fun n s seen => rfl)
      (fun W s => ∃ Y', SetIs D s.2.1 s.2.2 Y' ∧ s.1 = (many || !small Y') ∧ ∀ x, x ∈ Y' ↔ x ∈ Y ∨ AtV D W x) ?_ ?_ N [] (many, f, fcl) ⟨Y, hf, hm', fun x => ⟨.inl, fun h => h.elim id fun h => absurd h atV_nil⟩⟩ (by simp) List.nodup_nil ?_
    · rintro _ W ⟨a, b, c⟩ e rec ⟨Y', h1, h2, h3⟩ hW hWn he hne hrec
      rw [if_pos rfl]
      rw [findB_mem ht.st he]
      obtain ⟨i, x, h4, h5, h6⟩ := ht.ent he
      simp only []
      rw [h4, scI_kI]
      obtain ⟨s', cl', h7, h8⟩ := put_eq (N := N) h h1 h5 (V := V) (P := P) (T := Tm) (Nd := Nd) (many := a) (kcl := kcl) (k0 := fun (r20 : Bool) (r21 : SetL) (r22 : Nat) => rec (r20, r21, r22))
      rw [h8]
      refine hrec _ ⟨ins Y' x, h7, ?_, fun y => ?_⟩
      · simp only [] at h2 ⊢
        rw [h2, many_ins]
      · rw [mem_ins, h3, atV_cons h4 h5]
        constructor
        · rintro ((h | h) | h)
          · exact .inl h
          · exact .inr (.inr h)
          · exact .inr (.inl h)
        · rintro (h | h | h)
          · exact .inl (.inl h)
          · exact .inr h
          · exact .inl (.inr h)
    · rintro W ⟨a, b, c⟩ h1 h2 hWn ⟨Y', h3, h4, h5⟩
      simp only [] at h4 ⊢
      rw [h4]
      refine hk b c Y' h3 fun x => ?_
      rw [h5, atV_all ht h1 h2]
    · refine Nat.lt_of_le_of_lt (unseen_le _ _) ?_
      have := ht.le h.nd
      have := ht.len
      have := h.bnd
      omega

theorem mark_ok {N : Nat} (hN : maxRow < N) {D l long kn t tcl X f fcl} (h : GD D l long kn) (ht : SetIs D t tcl X) (hx : X.length ≤ 65) (hD : D.length + 65 ≤ maxRow) {m : Mark} {V P Tm : List (List UInt8)} {Nd : List Node} {many both : Bool} {kcl : Nat}
    {k0 : Bool → KnL → Nat → Bool → List Next → List Int → SetL → Nat → Option Unit}
    (hk : ∀ D' kn' kcl' l' long' t' tcl' X', D <+: D' → D'.length ≤ D.length + 65 → GD D' l' long' kn' → SetIs D' t' tcl' X' → (∀ x, x ∈ X' ↔ ∃ y ∈ X, x = y ++ [m]) → k0 (many || !small X') kn' kcl' false l' long' t' tcl' = some ()) :
    effect_rows_mark N m.Port m.Event V P Tm Nd many l long kn kcl both t tcl f fcl k0 = some () := by
  unfold effect_rows_mark
  refine range_ok (σ := Bool × KnL × Nat × List Next × List Int × SetL × Nat) ht.st ht.lt
    (fun n s seen => effect_rows_mark_l0 N V P Tm Nd l long both t tcl f fcl m.Port m.Event tcl (fun (y73 : Bool) (y74 : List (List Sc × Int × Nat)) (y75 : Nat) (y76 : List Next) (y77 : List Int) (y78 : List (List Sc × Bool × Nat)) (y79 : Nat) =>
  k0 y73 y74 y75 false y76 y77 y78 y79) n s.1 s.2.1 s.2.2.1 s.2.2.2.1 s.2.2.2.2.1 s.2.2.2.2.2.1 s.2.2.2.2.2.2 seen tcl)
    (fun s => k0 s.1 s.2.1 s.2.2.1 false s.2.2.2.1 s.2.2.2.2.1 s.2.2.2.2.2.1 s.2.2.2.2.2.2)
    (fun _ s n59 rec => if tcl = tcl then (match findB n59.2.2 t with
  | some en60 => (effect_rows_more N (scI en60.1) m.Port m.Event V P Tm Nd s.1 s.2.2.2.1 s.2.2.2.2.1 s.2.1 s.2.2.1 (fun (r61 : Int) =>
  effect_rows_put N r61 V P Tm Nd s.1 s.2.2.2.1 s.2.2.2.2.1 s.2.1 s.2.2.1 s.2.2.2.2.2.1 s.2.2.2.2.2.2 (fun (r62 : Bool) (r63 : List (List Sc × Bool × Nat)) (r64 : Nat) =>
  rec (r62, s.2.1, s.2.2.1, s.2.2.2.1, s.2.2.2.2.1, r63, r64))) (fun (r65 : Int) (r66 : List (List Sc × Int × Nat)) (r67 : Nat) (r68 : List Next) (r69 : List Int) =>
  effect_rows_put N r65 V P Tm Nd s.1 r68 r69 r66 r67 s.2.2.2.2.2.1 s.2.2.2.2.2.2 (fun (r70 : Bool) (r71 : List (List Sc × Bool × Nat)) (r72 : Nat) =>
  rec (r70, r66, r67, r68, r69, r71, r72))))
  | none => none) else none)
    (fun n s seen => rfl)
    (fun W s => ∃ D' X', D <+: D' ∧ D'.length ≤ D.length + W.length ∧ GD D' s.2.2.2.1 s.2.2.2.2.1 s.2.1 ∧ SetIs D' s.2.2.2.2.2.1 s.2.2.2.2.2.2 X' ∧ s.1 = (many || !small X') ∧ ∀ x, x ∈ X' ↔ ∃ y, AtV D W y ∧ x = y ++ [m]) ?_ ?_ N []
    (many, kn, kcl, l, long, ([] : SetL), 0) ⟨D, [], List.prefix_refl _, by simp, h, SetIs.nil _ _, by simp [small], fun x => ⟨fun h => by simp at h, fun ⟨y, h, _⟩ => absurd h atV_nil⟩⟩ (by simp) List.nodup_nil ?_
  · rintro _ W ⟨a, b, c, d, g, i, j⟩ e rec ⟨D', X', h1, h2, h3, h4, h5, h6⟩ hW hWn he hne hrec
    have hlen := V_lt hW hWn he hne
    rw [ht.len] at hlen
    simp only [] at h3 h4 h5
    rw [if_pos rfl]
    rw [findB_mem ht.st he]
    obtain ⟨p, x, h7, h8, h9⟩ := ht.ent he
    simp only []
    rw [h7, scI_kI]
    have h8' : D'[p]? = some x := by
      obtain ⟨E, rfl⟩ := h1
      rw [List.getElem?_append_left (get_lt h8)]; exact h8
    have fin : ∀ D2 i', D' <+: D2 → D2.length ≤ D'.length + 1 → D2[i']? = some (x ++ [m]) → ∀ l2 long2 kn2 kcl2, GD D2 l2 long2 kn2 →
        effect_rows_put N ((i' : Nat) : Int) V P Tm Nd a l2 long2 kn2 kcl2 i j (fun (r70 : Bool) (r71 : List (List Sc × Bool × Nat)) (r72 : Nat) => rec (r70, kn2, kcl2, l2, long2, r71, r72)) = some () := by
      intro D2 i' hd hl hi l2 long2 kn2 kcl2 hg
      obtain ⟨s', cl', h10, h11⟩ := put_eq (N := N) hg (h4.mono hd) hi (V := V) (P := P) (T := Tm) (Nd := Nd) (many := a) (kcl := kcl2) (k0 := fun (r70 : Bool) (r71 : List (List Sc × Bool × Nat)) (r72 : Nat) => rec (r70, kn2, kcl2, l2, long2, r71, r72))
      rw [h11]
      refine hrec _ ⟨D2, ins X' (x ++ [m]), h1.trans hd, by simp; omega, hg, h10, ?_, fun y => ?_⟩
      · simp only []
        rw [h5, many_ins]
      · rw [mem_ins, h6]
        constructor
        · rintro (⟨z, hz, rfl⟩ | rfl)
          · exact ⟨z, (atV_cons h7 h8).2 (.inr hz), rfl⟩
          · exact ⟨x, (atV_cons h7 h8).2 (.inl rfl), rfl⟩
        · rintro ⟨z, hz, rfl⟩
          rcases (atV_cons h7 h8).1 hz with rfl | hz
          · exact .inr rfl
          · exact .inl ⟨z, hz, rfl⟩
    refine more_ok h3 h8' (by omega) (fun i' hi' => fin D' i' (List.prefix_refl _) (by omega) hi' d g b c h3) fun kn2 kcl2 l2 long2 hnot hg => fin _ D'.length (List.prefix_append _ _) (by simp) (by rw [List.getElem?_append_right (Nat.le_refl _)]; simp) l2 long2 kn2 kcl2 hg
  · rintro W ⟨a, b, c, d, g, i, j⟩ h1 h2 hWn ⟨D', X', h3, h4, h5, h6, h7, h8⟩
    simp only [] at h5 h6 h7 ⊢
    have hl := nodup_sub_len hWn h2
    rw [ht.len] at hl
    rw [h7]
    refine hk D' b c d g i j X' h3 (by omega) h5 h6 fun x => ?_
    rw [h8]
    constructor
    · rintro ⟨y, hy, rfl⟩; exact ⟨y, (atV_all ht h1 h2).1 hy, rfl⟩
    · rintro ⟨y, hy, rfl⟩; exact ⟨y, (atV_all ht h1 h2).2 hy, rfl⟩
  · refine Nat.lt_of_le_of_lt (unseen_le _ _) ?_
    have := ht.len
    simp only [maxRow] at hN
    omega
theorem then_l4_ok {N : Nat} {ms : List Mark} {V P Tm : List (List UInt8)} {Nd : List Node} {many : Bool} {q1 : List Next} {q2 : List Int} {out : SetL} {ocl : Nat} {ah : SetL} {acl : Nat} {bh : SetL} {bcl : Nat} {w1 : Nat} {w2 : List Nat} {w3 w4 : Nat} {w5 : List Nat} {w6 : Nat}
    {kp0 : Int → KnL → Nat → List Next → List Int → Option Unit} (hms : ms.length < 2 ^ 40) :
    ∀ (n i p : Nat) (x : MR) (D : List MR) (l : List Next) (long : List Int) (kn : KnL) (kcl : Nat), GD D l long kn → D[p]? = some x → i ≤ ms.length → ms.length - i < n → D.length + (ms.length - i) ≤ maxRow →
    (∀ D' p' kn' kcl' l' long', D <+: D' → D'.length ≤ D.length + (ms.length - i) → GD D' l' long' kn' → D'[p']? = some (x ++ ms.drop i) → kp0 ((p' : Nat) : Int) kn' kcl' l' long' = some ()) →
    effect_rows_then_l4 N ((ms.length : Nat) : Int) V P Tm Nd many q1 q2 out ocl ah acl bh bcl ms w1 w2 w3 w4 w5 w6 kp0 n (p : Int) (i : Int) kn kcl l long = some ()
  | 0, _, _, _, _, _, _, _, _, _, _, _, h, _, _ => by omega
  | n + 1, i, p, x, D, l, long, kn, kcl, h, hp, hi, hn, hb, hk => by
    show effect_rows_then_l4_b N _ V P Tm Nd many q1 q2 out ocl ah acl bh bcl ms w1 w2 w3 w4 w5 w6 kp0 (effect_rows_then_l4 N _ V P Tm Nd many q1 q2 out ocl ah acl bh bcl ms w1 w2 w3 w4 w5 w6 kp0 n) (p : Int) (i : Int) kn kcl l long = some ()
    unfold effect_rows_then_l4_b
    by_cases hlt : i < ms.length
    · rw [if_pos (by simpa using hlt), if_pos ⟨by omega, by omega⟩]
      obtain ⟨m, hm, hd⟩ := drop_cons hlt
      rw [Int.toNat_natCast, hm]
      simp only []
      have hw : IntKind.wrap .i64 ((i : Int) + 1) = ((i + 1 : Nat) : Int) := by rw [wr _ (by omega) (by omega)]; omega
      rw [hw]
      refine more_ok h hp (by omega) (fun j hj => ?_) fun kn2 kcl2 l2 long2 hnot hg => ?_
      · refine then_l4_ok hms n (i + 1) j (x ++ [m]) D l long kn kcl h hj (by omega) (by omega) (by omega) fun D' p' kn' kcl' l' long' h1 h2 h3 h4 => hk D' p' kn' kcl' l' long' h1 (by omega) h3 ?_
        rw [hd]; simpa using h4
      · refine then_l4_ok hms n (i + 1) D.length (x ++ [m]) _ l2 long2 kn2 kcl2 hg (by rw [List.getElem?_append_right (Nat.le_refl _)]; simp) (by omega) (by omega) (by simp; omega) fun D' p' kn' kcl' l' long' h1 h2 h3 h4 => hk D' p' kn' kcl' l' long' ((List.prefix_append _ _).trans h1) (by simp at h2; omega) h3 ?_
        rw [hd]; simpa using h4
    · rw [if_neg (by simpa using hlt)]
      refine hk D p kn kcl l long (List.prefix_refl _) (by omega) h ?_
      rw [List.drop_eq_nil_of_le (by omega)]; simpa using hp

/-- What then leaves. -/
structure ThenP (D : List MR) (O A B : List MR) (many : Bool) (D' : List MR) (many' : Bool) (O' : List MR) : Prop where
  ext : D <+: D'
  len : D'.length ≤ D.length + 262144
  up : ∀ x ∈ O, x ∈ O'
  lo : ∀ x ∈ O', x ∈ O ∨ x ∈ pr A B
  all : many' = false → ∀ x ∈ pr A B, x ∈ O'
  mny : many' = (many || !small O')
  same : many = true → O' = O
  le : O'.length ≤ max O.length 65

theorem then_l2_ok {N : Nat} (hN : maxRow < N) {D l long kn ah acl A out ocl O} (h : GD D l long kn) (ha : SetIs D ah acl A) (ho : SetIs D out ocl O) {ms : List Mark} {V P Tm : List (List UInt8)} {Nd : List Node} {mc : Bool} {kcl : Nat} {q1 : List Next} {q2 : List Int} {bh : SetL} {bcl : Nat} {w1 : Nat} {w2 : List Nat} {w3 : Nat}
    (hA : mc = false → A.length ≤ 64 ∧ ms.length ≤ 64) (hm : mc = false → small O = true) (hb : mc = false → D.length + 4096 ≤ maxRow)
    {kp0 kp1 : Bool → KnL → Nat → SetL → Nat → List Next → List Int → Option Unit}
    (hk0 : ∀ D' many' kn' kcl' out' ocl' O' l' long', D <+: D' → D'.length ≤ D.length + (if mc = true then 0 else 4096) → GD D' l' long' kn' → SetIs D' out' ocl' O' → many' = (mc || !small O') → (mc = true → O' = O) → O'.length ≤ max O.length 65 →
      (∀ x, x ∈ O' ↔ x ∈ O ∨ ∃ a ∈ A, x = a ++ ms) → kp0 many' kn' kcl' out' ocl' l' long' = some ())
    (hk1 : ∀ D' kn' kcl' out' ocl' O' l' long', D <+: D' → D'.length ≤ D.length + (if mc = true then 0 else 4096) → GD D' l' long' kn' → SetIs D' out' ocl' O' → true = (mc || !small O') → (mc = true → O' = O) → O'.length ≤ max O.length 65 →
      (∀ x ∈ O, x ∈ O') → (∀ x ∈ O', x ∈ O ∨ ∃ a ∈ A, x = a ++ ms) → kp1 true kn' kcl' out' ocl' l' long' = some ()) :
    effect_rows_then_l2 N V P Tm Nd q1 q2 ah acl bh bcl ms w1 w2 w3 acl kp0 kp1 N mc kn kcl out ocl l long [] acl = some () := by
  have hm' : mc = (mc || !small O) := by
    cases mc
    · rw [hm rfl]; rfl
    · rfl
  refine range_ok (σ := Bool × KnL × Nat × SetL × Nat × List Next × List Int) ha.st ha.lt
    (fun n s seen => effect_rows_then_l2 N V P Tm Nd q1 q2 ah acl bh bcl ms w1 w2 w3 acl kp0 kp1 n s.1 s.2.1 s.2.2.1 s.2.2.2.1 s.2.2.2.2.1 s.2.2.2.2.2.1 s.2.2.2.2.2.2 seen acl)
    (fun s => kp0 s.1 s.2.1 s.2.2.1 s.2.2.2.1 s.2.2.2.2.1 s.2.2.2.2.2.1 s.2.2.2.2.2.2)
    (fun seen s n144 rec => if acl = acl then (match findB n144.2.2 ah with
  | some en145 => (if s.1 = true then
    (kp1 s.1 s.2.1 s.2.2.1 s.2.2.2.1 s.2.2.2.2.1 s.2.2.2.2.2.1 s.2.2.2.2.2.2)
  else
    (effect_rows_then_l4 N ((ms.length : Nat) : Int) V P Tm Nd s.1 q1 q2 s.2.2.2.1 s.2.2.2.2.1 ah acl bh bcl ms w1 w2 w3 acl (n144.2.2 :: seen) acl (fun (y146 : Int) (y147 : List (List Sc × Int × Nat)) (y148 : Nat) (y149 : List Next) (y150 : List Int) =>
  effect_rows_put N y146 V P Tm Nd s.1 y149 y150 y147 y148 s.2.2.2.1 s.2.2.2.2.1 (fun (r151 : Bool) (r152 : List (List Sc × Bool × Nat)) (r153 : Nat) =>
  rec (r151, y147, y148, r152, r153, y149, y150))) N (scI en145.1) 0 s.2.1 s.2.2.1 s.2.2.2.2.2.1 s.2.2.2.2.2.2))
  | none => none) else none)
    (fun n s seen => rfl)
    (fun W s => ∃ D' O', D <+: D' ∧ D'.length ≤ D.length + (if mc = true then 0 else W.length * 64) ∧ GD D' s.2.2.2.2.2.1 s.2.2.2.2.2.2 s.2.1 ∧ SetIs D' s.2.2.2.1 s.2.2.2.2.1 O' ∧ s.1 = (mc || !small O') ∧ (mc = true → O' = O) ∧ O'.length ≤ max O.length 65 ∧ ∀ x, x ∈ O' ↔ x ∈ O ∨ ∃ y, AtV D W y ∧ x = y ++ ms) ?_ ?_ N []
    (mc, kn, kcl, out, ocl, l, long) ⟨D, O, List.prefix_refl _, by simp, h, ho, hm', fun _ => rfl, Nat.le_max_left _ _, fun x => ⟨.inl, fun h => h.elim id fun ⟨y, h, _⟩ => absurd h atV_nil⟩⟩ (by simp) List.nodup_nil ?_
  · rintro seen W ⟨a, b, c, d, e', g, i⟩ e rec ⟨D', O', h1, h2, h3, h4, h5, h6, hle, h7⟩ hW hWn he hne hrec
    have hlen := V_lt hW hWn he hne
    rw [ha.len] at hlen
    simp only [] at h3 h4 h5
    rw [if_pos rfl, findB_mem ha.st he]
    obtain ⟨p, x, h8, h9, h10⟩ := ha.ent he
    simp only []
    cases a with
    | true =>
      rw [if_pos rfl]
      refine hk1 D' b c d e' O' g i h1 ?_ h3 h4 h5 h6 hle (fun x hx => (h7 x).2 (.inl hx)) fun x hx => ?_
      · cases mc with
        | true => simpa using h2
        | false =>
          have := (hA rfl).1
          simp only [Bool.false_eq_true, if_false] at h2 ⊢
          omega
      · rcases (h7 x).1 hx with h | ⟨y, hy, rfl⟩
        · exact .inl h
        · exact .inr ⟨y, atV_sub ha hW hy, rfl⟩
    | false =>
      rw [if_neg (by simp), h8, scI_kI]
      have hmc : mc = false := by cases mc; rfl; simp at h5
      subst hmc
      simp only [Bool.false_eq_true, if_false] at h2
      have hA2 := hA rfl
      have hb2 := hb rfl
      have h9' : D'[p]? = some x := by
        obtain ⟨E, rfl⟩ := h1
        rw [List.getElem?_append_left (get_lt h9)]; exact h9
      refine then_l4_ok (by omega) N 0 p x D' g i b c h3 h9' (by omega) (by simp only [maxRow] at hN; omega) (by omega) fun D2 p' kn2 kcl2 l2 long2 k1 k2 k3 k4 => ?_
      rw [List.drop_zero] at k4
      obtain ⟨s', cl', h11, h12⟩ := put_eq (N := N) k3 (h4.mono k1) k4 (V := V) (P := P) (T := Tm) (Nd := Nd) (many := false) (kcl := kcl2) (k0 := fun (r151 : Bool) (r152 : List (List Sc × Bool × Nat)) (r153 : Nat) => rec (r151, kn2, kcl2, r152, r153, l2, long2))
      rw [h12]
      refine hrec _ ⟨D2, ins O' (x ++ ms), h1.trans k1, ?_, k3, h11, ?_, fun h => (by cases h), ?_, fun y => ?_⟩
      · simp only [Bool.false_eq_true, if_false, List.length_cons]
        omega
      · have hmi := @many_ins false O' (x ++ ms)
        rw [← h5] at hmi
        exact hmi
      · have hso : small O' = true := by simpa using h5
        simp only [small, Bool.and_eq_true, decide_eq_true_eq] at hso
        have : (ins O' (x ++ ms)).length ≤ O'.length + 1 := by unfold ins; split <;> simp
        omega
      · rw [mem_ins, h7]
        constructor
        · rintro ((h | ⟨z, hz, rfl⟩) | rfl)
          · exact .inl h
          · exact .inr ⟨z, (atV_cons h8 h9).2 (.inr hz), rfl⟩
          · exact .inr ⟨x, (atV_cons h8 h9).2 (.inl rfl), rfl⟩
        · rintro (h | ⟨z, hz, rfl⟩)
          · exact .inl (.inl h)
          · rcases (atV_cons h8 h9).1 hz with rfl | hz
            · exact .inr rfl
            · exact .inl (.inr ⟨z, hz, rfl⟩)
  · rintro W ⟨a, b, c, d, e', g, i⟩ h1 h2 hWn ⟨D', O', h3, h4, h5, h6, h7, h8, hle, h9⟩
    simp only [] at h5 h6 h7 ⊢
    have hl := nodup_sub_len hWn h2
    rw [ha.len] at hl
    refine hk0 D' a b c d e' O' g i h3 ?_ h5 h6 h7 h8 hle fun x => ?_
    · cases mc with
      | true => simpa using h4
      | false =>
        have := (hA rfl).1
        simp only [Bool.false_eq_true, if_false] at h4 ⊢
        omega
    · rw [h9]
      constructor
      · rintro (h | ⟨y, hy, rfl⟩)
        · exact .inl h
        · exact .inr ⟨y, (atV_all ha h1 h2).1 hy, rfl⟩
      · rintro (h | ⟨y, hy, rfl⟩)
        · exact .inl h
        · exact .inr ⟨y, (atV_all ha h1 h2).2 hy, rfl⟩
  · refine Nat.lt_of_le_of_lt (unseen_le _ _) ?_
    have := ha.le h.nd
    have := ha.len
    have := h.bnd
    omega

theorem then_ok {N : Nat} (hN : maxRow < N) {D l long kn ah acl A bh bcl B out ocl O} (h : GD D l long kn) (ha : SetIs D ah acl A) (hbh : SetIs D bh bcl B) (ho : SetIs D out ocl O) {V P Tm : List (List UInt8)} {Nd : List Node} {many : Bool} {kcl : Nat}
    (hA : many = false → small A = true ∧ small B = true) (hm : many = false → small O = true) (hb : D.length + 262144 ≤ maxRow)
    {k0 : Bool → KnL → Nat → SetL → Nat → List Next → List Int → Option Unit}
    (hk : ∀ D' many' kn' kcl' out' ocl' O' l' long', ThenP D O A B many D' many' O' → GD D' l' long' kn' → SetIs D' out' ocl' O' → k0 many' kn' kcl' out' ocl' l' long' = some ()) :
    effect_rows_then N V P Tm Nd many l long kn kcl out ocl ah acl bh bcl k0 = some () := by
  have hm' : many = (many || !small O) := by
    cases many
    · rw [hm rfl]; rfl
    · rfl
  have hA' : many = false → A.length ≤ 64 ∧ B.length ≤ 64 ∧ ∀ b ∈ B, b.length ≤ 64 := fun e => by
    obtain ⟨h1, h2⟩ := hA e
    simp only [small, Bool.and_eq_true, decide_eq_true_eq, List.all_eq_true] at h1 h2
    exact ⟨h1.1, h2⟩
  unfold effect_rows_then
  refine range_ok (σ := Bool × KnL × Nat × SetL × Nat × List Next × List Int) hbh.st hbh.lt
    (fun n s seen => effect_rows_then_l0 N V P Tm Nd l long ah acl bh bcl bcl (fun (y198 : Bool) (y199 : List (List Sc × Int × Nat)) (y200 : Nat) (y201 : List (List Sc × Bool × Nat)) (y202 : Nat) (y203 : List Next) (y204 : List Int) =>
  k0 y198 y199 y200 y201 y202 y203 y204)
    (fun (y205 : Bool) (y206 : List (List Sc × Int × Nat)) (y207 : Nat) (y208 : List (List Sc × Bool × Nat)) (y209 : Nat) (y210 : List Next) (y211 : List Int) =>
  k0 y205 y206 y207 y208 y209 y210 y211) n s.1 s.2.1 s.2.2.1 s.2.2.2.1 s.2.2.2.2.1 s.2.2.2.2.2.1 s.2.2.2.2.2.2 seen bcl)
    (fun s => k0 s.1 s.2.1 s.2.2.1 s.2.2.2.1 s.2.2.2.2.1 s.2.2.2.2.2.1 s.2.2.2.2.2.2)
    (fun seen s n181 rec => if bcl = bcl then (match findB n181.2.2 bh with
  | some en182 => (effect_rows_marks N (scI en182.1) V P Tm Nd s.1 s.2.2.2.2.2.1 s.2.2.2.2.2.2 s.2.1 s.2.2.1 (fun (r183 : List Mark) =>
  effect_rows_then_l2 N V P Tm Nd l long ah acl bh bcl r183 bcl (n181.2.2 :: seen) bcl acl (fun (y184 : Bool) (y185 : List (List Sc × Int × Nat)) (y186 : Nat) (y187 : List (List Sc × Bool × Nat)) (y188 : Nat) (y189 : List Next) (y190 : List Int) =>
  rec (y184, y185, y186, y187, y188, y189, y190))
    (fun (y191 : Bool) (y192 : List (List Sc × Int × Nat)) (y193 : Nat) (y194 : List (List Sc × Bool × Nat)) (y195 : Nat) (y196 : List Next) (y197 : List Int) =>
  k0 y191 y192 y193 y194 y195 y196 y197) N s.1 s.2.1 s.2.2.1 s.2.2.2.1 s.2.2.2.2.1 s.2.2.2.2.2.1 s.2.2.2.2.2.2 [] acl))
  | none => none) else none)
    (fun n s seen => rfl)
    (fun W s => ∃ D' O', D <+: D' ∧ D'.length ≤ D.length + (if many = true then 0 else W.length * 4096) ∧ GD D' s.2.2.2.2.2.1 s.2.2.2.2.2.2 s.2.1 ∧ SetIs D' s.2.2.2.1 s.2.2.2.2.1 O' ∧ s.1 = (many || !small O') ∧ (many = true → O' = O) ∧ O'.length ≤ max O.length 65 ∧ ∀ x, x ∈ O' ↔ x ∈ O ∨ ∃ y, AtV D W y ∧ ∃ a ∈ A, x = a ++ y) ?_ ?_ N []
    (many, kn, kcl, out, ocl, l, long) ⟨D, O, List.prefix_refl _, by simp, h, ho, hm', fun _ => rfl, Nat.le_max_left _ _, fun x => ⟨.inl, fun h => h.elim id fun ⟨y, h, _⟩ => absurd h atV_nil⟩⟩ (by simp) List.nodup_nil ?_
  · rintro seen W ⟨a, b, c, d, e', g, i⟩ e rec ⟨D', O', h1, h2, h3, h4, h5, h6, hle, h7⟩ hW hWn he hne hrec
    have hlen := V_lt hW hWn he hne
    rw [hbh.len] at hlen
    simp only [] at h3 h4 h5
    rw [if_pos rfl, findB_mem hbh.st he]
    obtain ⟨p, y, h8, h9, h10⟩ := hbh.ent he
    simp only []
    rw [h8, scI_kI]
    have h9' : D'[p]? = some y := by
      obtain ⟨E, rfl⟩ := h1
      rw [List.getElem?_append_left (get_lt h9)]; exact h9
    rw [rmarks_eq hN h3 h9']
    have hmf : a = false → many = false := fun e => by subst e; cases many; rfl; simp at h5
    have hsm : a = false → small O' = true := fun e => by
      subst e
      cases hq : small O'
      · rw [hq] at h5; simp at h5
      · rfl
    have hgrow : ∀ {D2 : List MR}, D2.length ≤ D'.length + (if a = true then 0 else 4096) → D2.length ≤ D.length + (if many = true then 0 else (W.length + 1) * 4096) := by
      intro D2 hd
      cases many with
      | true =>
        have : a = true := by simpa using h5
        subst this
        simp at h2 hd ⊢
        omega
      | false =>
        simp only [Bool.false_eq_true, if_false] at h2 ⊢
        split at hd <;> omega
    refine then_l2_ok hN h3 (ha.mono h1) h4 (fun e => ⟨(hA' (hmf e)).1, (hA' (hmf e)).2.2 y h10⟩) hsm (fun e => ?_) ?_ ?_
    · have := hmf e
      subst this
      have := hA' rfl
      simp only [Bool.false_eq_true, if_false] at h2
      omega
    · intro D2 m2 kn2 kcl2 out2 ocl2 O2 l2 long2 k1 k2 k3 k4 k5 k6 kle k7
      refine hrec _ ⟨D2, O2, h1.trans k1, hgrow k2, k3, k4, ?_, fun e => ?_, by omega, fun x => ?_⟩
      · simp only []
        rw [k5, h5]
        cases many with
        | true => rfl
        | false =>
          simp only [Bool.false_or] at h5 ⊢
          cases hq : small O2
          · simp
          · have : small O' = true := small_sub (h4.nodup h3.nd) (fun x hx => (k7 x).2 (.inl hx)) hq
            rw [this]; rfl
      · have : a = true := by rw [e] at h5; simpa using h5
        rw [k6 this, h6 e]
      · rw [k7, h7]
        constructor
        · rintro ((h | ⟨z, hz, hh⟩) | ⟨q, hq, rfl⟩)
          · exact .inl h
          · exact .inr ⟨z, (atV_cons h8 h9).2 (.inr hz), hh⟩
          · exact .inr ⟨y, (atV_cons h8 h9).2 (.inl rfl), q, hq, rfl⟩
        · rintro (h | ⟨z, hz, q, hq, rfl⟩)
          · exact .inl (.inl h)
          · rcases (atV_cons h8 h9).1 hz with rfl | hz
            · exact .inr ⟨q, hq, rfl⟩
            · exact .inl (.inr ⟨z, hz, q, hq, rfl⟩)
    · intro D2 kn2 kcl2 out2 ocl2 O2 l2 long2 k1 k2 k3 k4 k5 k6 kle k7 k8
      have hsame : many = true → O2 = O := fun e => by
        have : a = true := by rw [e] at h5; simpa using h5
        rw [k6 this, h6 e]
      refine hk D2 true kn2 kcl2 out2 ocl2 O2 l2 long2 ⟨h1.trans k1, ?_, fun x hx => k7 x ((h7 x).2 (.inl hx)), fun x hx => ?_, fun e => (by cases e), ?_, hsame, by omega⟩ k3 k4
      · have := hgrow k2
        split at this
        · omega
        · rename_i e
          have := hA' (by simpa using e)
          omega
      · rcases k8 x hx with h | ⟨q, hq, rfl⟩
        · rcases (h7 x).1 h with h | ⟨z, hz, q, hq, rfl⟩
          · exact .inl h
          · exact .inr (mem_pr.2 ⟨q, hq, z, atV_sub hbh hW hz, rfl⟩)
        · exact .inr (mem_pr.2 ⟨q, hq, y, h10, rfl⟩)
      · cases many with
        | true => rfl
        | false =>
          simp only [Bool.false_or] at h5 ⊢
          cases hq : small O2
          · rfl
          · have : small O' = true := small_sub (h4.nodup h3.nd) (fun x hx => k7 x hx) hq
            rw [this] at h5
            rw [hq, h5] at k5
            simp at k5
  · rintro W ⟨a, b, c, d, e', g, i⟩ h1 h2 hWn ⟨D', O', h3, h4, h5, h6, h7, h8, hle, h9⟩
    simp only [] at h5 h6 h7 ⊢
    have hl := nodup_sub_len hWn h2
    rw [hbh.len] at hl
    refine hk D' a b c d e' O' g i ⟨h3, ?_, fun x hx => (h9 x).2 (.inl hx), fun x hx => ?_, fun _ x hx => ?_, h7, h8, hle⟩ h5 h6
    · cases many with
      | true => simp at h4; omega
      | false =>
        have := hA' rfl
        simp only [Bool.false_eq_true, if_false] at h4
        omega
    · rcases (h9 x).1 hx with h | ⟨y, hy, q, hq, rfl⟩
      · exact .inl h
      · exact .inr (mem_pr.2 ⟨q, hq, y, (atV_all hbh h1 h2).1 hy, rfl⟩)
    · obtain ⟨q, hq, y, hy, rfl⟩ := mem_pr.1 hx
      exact (h9 _).2 (.inr ⟨y, (atV_all hbh h1 h2).2 hy, q, hq, rfl⟩)
  · refine Nat.lt_of_le_of_lt (unseen_le _ _) ?_
    have := hbh.le h.nd
    have := hbh.len
    have := h.bnd
    omega
abbrev St2 := List MR × List MR
def failS (s : St2) : Option St2 := if small (un s.2 s.1) = true then some (s.1, un s.2 s.1) else none
def markS (m : Mark) (s : St2) : Option St2 := if small (s.1.map (· ++ [m])) = true then some (s.1.map (· ++ [m]), s.2) else none
def choiceS (y z s : St2) : Option St2 :=
  if small (un (un [] (pr s.1 y.1)) (pr s.1 z.1)) = true then
    (if small (un (un s.2 (pr s.1 y.2)) (pr s.1 z.2)) = true then some (un (un [] (pr s.1 y.1)) (pr s.1 z.1), un (un s.2 (pr s.1 y.2)) (pr s.1 z.2)) else none) else none
def idxS : List (List UInt8) → List UInt8 → Int → Int
  | [], _, _ => -1
  | x :: r, y, i => if y = x then i else idxS r y (i + 1)
def loopS (body : St2 → Option St2) : Nat → St2 → Option St2
  | 0 => some
  | n + 1 => fun s => (body s).bind (loopS body n)
def actS (fl : List Expr → Bool) (pt : List (List UInt8)) (rec : List Act → St2 → Option St2) (a : Act) (s : St2) : Option St2 :=
  (if (a.Kind == 4 || fl a.X) = true then failS s else some s).bind fun s =>
  if (a.Kind == 2) = true then markS ⟨-1, a.Event⟩ s
  else if (a.Kind == 3) = true then markS ⟨idxS pt a.Name 0, a.Event⟩ s
  else if (a.Kind == 6) = true then (rec a.Then ([[]], [])).bind fun y => (rec a.Else ([[]], [])).bind fun z => choiceS y z s
  else if (a.Kind == 7) = true then loopS (rec a.Then) (if 16 < a.N then 16 else a.N).toNat s
  else some s
def actsS (step : Act → St2 → Option St2) : List Act → St2 → Option St2
  | [] => some
  | a :: r => fun s => (step a s).bind (actsS step r)
def sp (fl : List Expr → Bool) (pt : List (List UInt8)) : Nat → List Act → St2 → Option St2
  | 0 => fun _ _ => none
  | d + 1 => actsS (actS fl pt (sp fl pt d))
def dep (N : Nat) (fl : List Expr → Bool) : Nat → List Act → Prop
  | 0, _ => False
  | d + 1, l => l.length < maxRow ∧ ∀ a ∈ l, slices_ContainsFunc_Expr N a.X (fun b => some b) = some (fl a.X) ∧ (a.Kind = 6 → dep N fl d a.Then ∧ dep N fl d a.Else) ∧ (a.Kind = 7 → dep N fl d a.Then)
def cstL (f : Act → Nat) : List Act → Nat
  | [] => 0
  | a :: r => f a + cstL f r
/-- The rounds of a loop. -/
def rnd (a : Act) : Nat := (if 16 < a.N then 16 else a.N).toNat
def cst : Nat → List Act → Nat
  | 0, _ => 0
  | d + 1, l => cstL (fun a => 1100000 + rnd a * cst d a.Then + cst d a.Then + cst d a.Else) l

/-- A block that is under way. -/
structure BS where
  many : Bool
  kn : KnL
  kcl : Nat
  both : Bool
  f : SetL
  fcl : Nat
  l : List Next
  long : List Int
  t : SetL
  tcl : Nat
structure OkB (D : List MR) (s : BS) (X Y : List MR) : Prop where
  gd : GD D s.l s.long s.kn
  st : SetIs D s.t s.tcl X
  sf : SetIs D s.f s.fcl Y
  sm : s.many = false → small X = true ∧ small Y = true
  le : X.length ≤ 65
  bo : s.both = true → ∀ x ∈ X, x ∈ Y
def Sim (s : BS) (X Y : List MR) : Option St2 → Prop
  | some (T, F) => s.many = false ∧ Alike X T ∧ Alike Y F ∧ T.Nodup ∧ F.Nodup
  | none => s.many = true
abbrev Kt := Bool → KnL → Nat → Bool → SetL → Nat → List Next → List Int → SetL → Nat → Option Unit
def Goes (D : List MR) (o : Option St2) (c : Nat) (K : Kt) : Prop :=
  ∀ D' s X Y, D <+: D' → D'.length ≤ D.length + c → OkB D' s X Y → Sim s X Y o → K s.many s.kn s.kcl s.both s.f s.fcl s.l s.long s.t s.tcl = some ()
theorem Goes.next {D D1 : List MR} {o : Option St2} {c c1 : Nat} {K : Kt} (h : Goes D o c K) (h1 : D <+: D1) (h2 : D1.length + c1 ≤ D.length + c) : Goes D1 o c1 K :=
  fun D' s X Y a b e f => h D' s X Y (h1.trans a) (by omega) e f

theorem idx_l0 {R : Type} {N : Nat} {s : List (List UInt8)} {v : List UInt8} (hs : s.length < 2 ^ 40) {k : Int → Option R} : ∀ (n i : Nat), i ≤ s.length → s.length - i < n →
    slices_Index_string_l0 N s v ((s.length : Nat) : Int) (k (-1)) (fun (y6 : Int) => k y6) n (i : Int) = k (idxS (s.drop i) v (i : Int))
  | 0, _, _, h => by omega
  | n + 1, i, h1, h2 => by
    show slices_Index_string_l0_b N s v ((s.length : Nat) : Int) (k (-1)) (fun (y6 : Int) => k y6) (slices_Index_string_l0 N s v ((s.length : Nat) : Int) (k (-1)) (fun (y6 : Int) => k y6) n) (i : Int) = _
    unfold slices_Index_string_l0_b
    by_cases hlt : i < s.length
    · rw [if_pos (by simpa using hlt), at_nat]
      obtain ⟨x, hx, hd⟩ := drop_cons hlt
      rw [hx, hd]
      simp only [Option.bind_some, idxS]
      by_cases e : v = x
      · rw [if_pos (by simpa using e), if_pos e]
      · rw [if_neg (by simpa using e), if_neg e]
        rw [wr _ (by omega) (by omega), show ((i : Int) + 1) = ((i + 1 : Nat) : Int) by omega]
        exact idx_l0 hs n (i + 1) (by omega) (by omega)
    · rw [if_neg (by simpa using hlt), List.drop_eq_nil_of_le (by omega)]
      rfl
theorem idx_eq {R : Type} {N : Nat} (hN : maxRow < N) {s : List (List UInt8)} {v : List UInt8} (hs : s.length < maxRow) {k : Int → Option R} : slices_Index_string N s v k = k (idxS s v 0) := by
  unfold slices_Index_string
  simp only [maxRow] at hs
  exact idx_l0 (by omega) N 0 (by omega) (by simp only [maxRow] at hN; omega)

theorem Sim.none_iff {s : BS} {X Y : List MR} {o : Option St2} (h : Sim s X Y o) (hm : s.many = true) : o = none := by
  cases o with
  | none => rfl
  | some p => obtain ⟨T, F⟩ := p; have := h.1; rw [hm] at this; cases this
theorem Sim.some_of {s : BS} {X Y : List MR} {o : Option St2} (h : Sim s X Y o) (hm : s.many = false) : ∃ T F, o = some (T, F) ∧ Alike X T ∧ Alike Y F ∧ T.Nodup ∧ F.Nodup := by
  cases o with
  | none => have : s.many = true := h; rw [hm] at this; cases this
  | some p => obtain ⟨T, F⟩ := p; exact ⟨T, F, rfl, h.2⟩
theorem nodup_map_app {m : Mark} : ∀ {T : List MR}, T.Nodup → (T.map (· ++ [m])).Nodup := fun h => List.pairwise_map.2 (h.imp fun hne e => hne (List.append_inj' e rfl).1)
section
variable {N : Nat} (hN : maxRow < N) {V P Tm : List (List UInt8)} {Nd : List Node}
include hN

theorem failB {D : List MR} {s : BS} {X Y : List MR} {o : Option St2} (h : OkB D s X Y) (hs : Sim s X Y o) {c : Nat} {K : Kt} (hk : Goes D (o.bind failS) c K) :
    effect_rows_fail N V P Tm Nd s.many s.l s.long s.kn s.kcl s.both s.t s.tcl s.f s.fcl (fun r23 r24 r25 r26 => K r23 s.kn s.kcl r24 r25 r26 s.l s.long s.t s.tcl) = some () := by
  refine fail_ok hN h.gd h.st h.sf (fun e => (h.sm e).2) h.bo fun f' fcl' Y' h1 h2 => ?_
  refine hk D ⟨s.many || !small Y', s.kn, s.kcl, true, f', fcl', s.l, s.long, s.t, s.tcl⟩ X Y' (List.prefix_refl _) (by omega) ⟨h.gd, h.st, h1, fun e => ?_, h.le, fun _ x hx => (h2 x).2 (.inr hx)⟩ ?_
  · simp only [Bool.or_eq_false_iff, Bool.not_eq_false'] at e
    exact ⟨(h.sm e.1).1, e.2⟩
  · cases hm : s.many with
    | true =>
      rw [hs.none_iff hm]
      rfl
    | false =>
      obtain ⟨T, F, rfl, a1, a2, a3, a4⟩ := hs.some_of hm
      have al : Alike Y' (un F T) := fun x => by rw [h2, mem_un, a1 x, a2 x]
      have hn : (un F T).Nodup := nodup_un a4
      have hsm := al.small (h1.nodup h.gd.nd) hn
      simp only [Option.bind_some, failS]
      rw [hsm]
      cases hq : small (un F T) with
      | true => rw [if_pos rfl]; exact ⟨rfl, a1, al, a3, hn⟩
      | false => rw [if_neg (by simp)]; rfl

theorem markB {D : List MR} {s : BS} {X Y : List MR} {o : Option St2} (h : OkB D s X Y) (hs : Sim s X Y o) (hD : D.length + 65 ≤ maxRow) {m : Mark} {K : Kt} (hk : Goes D (o.bind (markS m)) 65 K) :
    effect_rows_mark N m.Port m.Event V P Tm Nd s.many s.l s.long s.kn s.kcl s.both s.t s.tcl s.f s.fcl (fun r54 r55 r56 r57 r58 r59 r60 r61 => K r54 r55 r56 r57 s.f s.fcl r58 r59 r60 r61) = some () := by
  refine mark_ok hN h.gd h.st h.le hD fun D' kn' kcl' l' long' t' tcl' X' h1 h2 h3 h4 h5 => ?_
  have hX := h.st.nodup h.gd.nd
  have hX' := h4.nodup h3.nd
  have alx : Alike X' (X.map (· ++ [m])) := fun x => by
    rw [h5, List.mem_map]
    constructor
    · rintro ⟨y, hy, rfl⟩; exact ⟨y, hy, rfl⟩
    · rintro ⟨y, hy, rfl⟩; exact ⟨y, hy, rfl⟩
  have hl := alx.len hX' (nodup_map_app hX)
  rw [List.length_map] at hl
  have hle := h.le
  refine hk D' ⟨s.many || !small X', kn', kcl', false, s.f, s.fcl, l', long', t', tcl'⟩ X' Y h1 h2 ⟨h3, h4, h.sf.mono h1, fun e => ?_, by omega, fun e => by cases e⟩ ?_
  · simp only [Bool.or_eq_false_iff, Bool.not_eq_false'] at e
    exact ⟨e.2, (h.sm e.1).2⟩
  · cases hm : s.many with
    | true =>
      rw [hs.none_iff hm]
      rfl
    | false =>
      obtain ⟨T, F, rfl, a1, a2, a3, a4⟩ := hs.some_of hm
      have al : Alike X' (T.map (· ++ [m])) := fun x => by
        rw [h5, List.mem_map]
        constructor
        · rintro ⟨y, hy, rfl⟩; exact ⟨y, (a1 y).1 hy, rfl⟩
        · rintro ⟨y, hy, rfl⟩; exact ⟨y, (a1 y).2 hy, rfl⟩
      have hsm := al.small hX' (nodup_map_app a3)
      simp only [Option.bind_some, markS]
      rw [hsm]
      cases hq : small (T.map (· ++ [m])) with
      | true => rw [if_pos rfl]; exact ⟨rfl, al, a2, nodup_map_app a3, a4⟩
      | false => rw [if_neg (by simp)]; rfl
end
def initS : St2 := ([[]], [])
def iniO (many : Bool) : Option St2 := if many = true then none else some initS
theorem small_up {X Y : List MR} (hX : X.Nodup) (hs : ∀ x ∈ X, x ∈ Y) (h : small X = false) : small Y = false := by
  cases hq : small Y
  · rfl
  · rw [small_sub hX hs hq] at h; cases h
section
variable {N : Nat} (hN : maxRow < N) {V P Tm : List (List UInt8)} {Nd : List Node} {fl : List Expr → Bool} (hP : P.length < maxRow)
/-- The blocks of this depth are found by these functions. -/
def ActsOk (N : Nat) (V P Tm : List (List UInt8)) (Nd : List Node) (fl : List Expr → Bool) (d e : Nat) : Prop :=
  ∀ (l : List Act), dep N fl d l → ∀ (D : List MR) (s : BS) (X Y : List MR) (o : Option St2) (K : Kt), OkB D s X Y → Sim s X Y o → D.length + cst d l ≤ maxRow → Goes D (o.bind (sp fl P d l)) (cst d l) K →
    (Fam_effect_rows_inner_at N e).effect_rows_acts Unit l V P Tm Nd s.many s.l s.long s.kn s.kcl s.both s.t s.tcl s.f s.fcl K = some ()

theorem inner_ok {d e : Nat} (ha : ActsOk N V P Tm Nd fl d e) {l : List Act} (hd : dep N fl d l) {D : List MR} {l2 : List Next} {long : List Int} {kn : KnL} {kcl : Nat} (h : GD D l2 long kn) (many : Bool) (hb : D.length + cst d l ≤ maxRow)
    {k0 : Bool → KnL → Nat → List Next → List Int → Bool → SetL → Nat → SetL → Nat → Option Unit}
    (hk : ∀ D' s X Y, D <+: D' → D'.length ≤ D.length + cst d l → OkB D' s X Y → Sim s X Y ((iniO many).bind (sp fl P d l)) → k0 s.many s.kn s.kcl s.l s.long s.both s.t s.tcl s.f s.fcl = some ()) :
    (Fam_effect_rows_inner_at N (e + 1)).effect_rows_inner Unit l V P Tm Nd many l2 long kn kcl k0 = some () := by
  rw [effect_rows_inner_at]
  unfold effect_rows_inner_d
  have h0 := (SetIs.nil D 0).put h.nd h.z
  have e0 : ins [] ([] : MR) = [[]] := rfl
  rw [e0] at h0
  exact ha l hd D ⟨many, kn, kcl, false, [], 0, l2, long, _, _⟩ [[]] [] (iniO many) (fun r1 r2 r3 r4 r5 r6 r7 r8 r9 r10 => k0 r1 r2 r3 r7 r8 r4 r9 r10 r5 r6)
    ⟨h, h0, SetIs.nil _ _, fun _ => ⟨by decide, by decide⟩, by simp, fun e => by cases e⟩
    (by cases many; exact ⟨rfl, fun x => Iff.rfl, fun x => Iff.rfl, by simp [initS], by simp [initS]⟩; exact rfl) hb
    fun D' s X Y a b c f => hk D' s X Y a b c f

include hN
theorem choice_ok {d e : Nat} (ha : ActsOk N V P Tm Nd fl d e) {a : Act} (hd1 : dep N fl d a.Then) (hd2 : dep N fl d a.Else) {D : List MR} {s : BS} {X Y : List MR} {o : Option St2} (h : OkB D s X Y) (hs : Sim s X Y o)
    (hb : D.length + (1050000 + cst d a.Then + cst d a.Else) ≤ maxRow) {K : Kt}
    (hk : Goes D (o.bind fun s => (sp fl P d a.Then initS).bind fun y => (sp fl P d a.Else initS).bind fun z => choiceS y z s) (1050000 + cst d a.Then + cst d a.Else) K) :
    (Fam_effect_rows_inner_at N (e + 2)).effect_rows_choice Unit a.Kind a.Name a.Event a.X a.N a.Then a.Else a.At V P Tm Nd s.many s.l s.long s.kn s.kcl s.both s.t s.tcl s.f s.fcl K = some () := by
  rw [effect_rows_choice_at]
  unfold effect_rows_choice_d
  refine inner_ok ha hd1 h.gd s.many (by omega) fun D1 s1 X1 Y1 p1 q1 k1 m1 => ?_
  refine inner_ok ha hd2 k1.gd s1.many (by omega) fun D2 s2 X2 Y2 p2 q2 k2 m2 => ?_
  have x1 : s1.many = false → s.many = false := fun e => by
    obtain ⟨T, F, ho, _⟩ := m1.some_of e
    cases hq : s.many
    · rfl
    · rw [hq] at ho; simp [iniO] at ho
  have x2 : s2.many = false → s1.many = false := fun e => by
    obtain ⟨T, F, ho, _⟩ := m2.some_of e
    cases hq : s1.many
    · rfl
    · rw [hq] at ho; simp [iniO] at ho
  have pt2 : D <+: D2 := p1.trans p2
  refine then_ok hN k2.gd (h.st.mono pt2) (k1.st.mono p2) (SetIs.nil _ _) (fun e => ⟨(h.sm (x1 (x2 e))).1, (k1.sm (x2 e)).1⟩) (fun _ => rfl) (by omega) fun D3 m3 kn3 kcl3 t3 tcl3 O3 l3 long3 g3 i3 j3 => ?_
  have y3 : m3 = false → s2.many = false := fun e => by have := g3.mny; rw [e] at this; cases hq : s2.many; rfl; rw [hq] at this; cases this
  have z3 : m3 = false → small O3 = true := fun e => by have := g3.mny; rw [e] at this; cases hq : small O3; rw [hq] at this; simp at this; rfl
  refine then_ok hN i3 ((h.st.mono pt2).mono g3.ext) (k2.st.mono g3.ext) j3 (fun e => ⟨(h.sm (x1 (x2 (y3 e)))).1, (k2.sm (y3 e)).1⟩) z3 (by have := g3.len; omega) fun D4 m4 kn4 kcl4 t4 tcl4 O4 l4 long4 g4 i4 j4 => ?_
  have y4 : m4 = false → m3 = false := fun e => by have := g4.mny; rw [e] at this; cases hq : m3; rfl; rw [hq] at this; cases this
  have z4 : m4 = false → small O4 = true := fun e => by have := g4.mny; rw [e] at this; cases hq : small O4; rw [hq] at this; simp at this; rfl
  have e34 := g3.ext.trans g4.ext
  refine then_ok hN i4 ((h.st.mono pt2).mono e34) ((k1.sf.mono p2).mono e34) ((h.sf.mono pt2).mono e34) (fun e => ⟨(h.sm (x1 (x2 (y3 (y4 e))))).1, (k1.sm (x2 (y3 (y4 e)))).2⟩) (fun e => (h.sm (x1 (x2 (y3 (y4 e))))).2)
    (by have := g3.len; have := g4.len; omega) fun D5 m5 kn5 kcl5 t5 tcl5 O5 l5 long5 g5 i5 j5 => ?_
  have y5 : m5 = false → m4 = false := fun e => by have := g5.mny; rw [e] at this; cases hq : m4; rfl; rw [hq] at this; cases this
  have z5 : m5 = false → small O5 = true := fun e => by have := g5.mny; rw [e] at this; cases hq : small O5; rw [hq] at this; simp at this; rfl
  have e35 := e34.trans g5.ext
  refine then_ok hN i5 ((h.st.mono pt2).mono e35) (k2.sf.mono e35) j5 (fun e => ⟨(h.sm (x1 (x2 (y3 (y4 (y5 e)))))).1, (k2.sm (y3 (y4 (y5 e)))).2⟩) z5
    (by have := g3.len; have := g4.len; have := g5.len; omega) fun D6 m6 kn6 kcl6 t6 tcl6 O6 l6 long6 g6 i6 j6 => ?_
  have y6 : m6 = false → m5 = false := fun e => by have := g6.mny; rw [e] at this; cases hq : m5; rfl; rw [hq] at this; cases this
  have z6 : m6 = false → small O6 = true := fun e => by have := g6.mny; rw [e] at this; cases hq : small O6; rw [hq] at this; simp at this; rfl
  have e46 := g5.ext.trans g6.ext
  refine hk D6 ⟨m6, kn6, kcl6, false, t6, tcl6, l6, long6, t4, tcl4⟩ O4 O6 ((pt2.trans e35).trans g6.ext) ?_ ⟨i6, j4.mono e46, j6, fun e => ⟨z4 (y5 (y6 e)), z6 e⟩, ?_, fun e => by cases e⟩ ?_
  · have := g3.len; have := g4.len; have := g5.len; have := g6.len; omega
  · have := g3.le; have := g4.le
    simp only [List.length_nil] at *
    omega
  · cases hsm : s.many with
    | true => rw [hs.none_iff hsm, Option.bind_none]; cases hq : m6; have := x1 (x2 (y3 (y4 (y5 (y6 hq))))); rw [hsm] at this; cases this; exact (rfl : true = true)
    | false =>
      obtain ⟨T, F, rfl, a1, a2, a3, a4⟩ := hs.some_of hsm
      rw [hsm] at m1
      have m1' : Sim s1 X1 Y1 (sp fl P d a.Then initS) := m1
      rw [Option.bind_some]
      cases h1m : s1.many with
      | true => rw [m1'.none_iff h1m, Option.bind_none]; cases hq : m6; have := x2 (y3 (y4 (y5 (y6 hq)))); rw [h1m] at this; cases this; exact (rfl : true = true)
      | false =>
        obtain ⟨T1, F1, ho1, b1, b2, b3, b4⟩ := m1'.some_of h1m
        rw [h1m] at m2
        have m2' : Sim s2 X2 Y2 (sp fl P d a.Else initS) := m2
        rw [ho1, Option.bind_some]
        cases h2m : s2.many with
        | true => rw [m2'.none_iff h2m, Option.bind_none]; cases hq : m6; have := y3 (y4 (y5 (y6 hq))); rw [h2m] at this; cases this; exact (rfl : true = true)
        | false =>
          obtain ⟨T2, F2, ho2, c1, c2, c3, c4⟩ := m2'.some_of h2m
          rw [ho2, Option.bind_some]
          have prE : ∀ {A B C E : List MR} (_ : Alike A C) (_ : Alike B E) (x : MR), x ∈ pr A B ↔ x ∈ pr C E := fun h1 h2 x => by
            rw [mem_pr, mem_pr]
            constructor
            · rintro ⟨p, hp, q, hq, rfl⟩; exact ⟨p, (h1 p).1 hp, q, (h2 q).1 hq, rfl⟩
            · rintro ⟨p, hp, q, hq, rfl⟩; exact ⟨p, (h1 p).2 hp, q, (h2 q).2 hq, rfl⟩
          have n4 := j4.nodup i4.nd
          have n6 := j6.nodup i6.nd
          have nT : (un (un [] (pr T T1)) (pr T T2)).Nodup := nodup_un (nodup_un List.nodup_nil)
          have nF : (un (un F (pr T F1)) (pr T F2)).Nodup := nodup_un (nodup_un a4)
          have lo4 : ∀ x ∈ O4, x ∈ un (un [] (pr T T1)) (pr T T2) := fun x hx => by
            rw [mem_un, mem_un]
            rcases g4.lo x hx with hx | hx
            · rcases g3.lo x hx with hx | hx
              · simp at hx
              · exact .inl (.inr ((prE a1 b1 x).1 hx))
            · exact .inr ((prE a1 c1 x).1 hx)
          have lo6 : ∀ x ∈ O6, x ∈ un (un F (pr T F1)) (pr T F2) := fun x hx => by
            rw [mem_un, mem_un]
            rcases g6.lo x hx with hx | hx
            · rcases g5.lo x hx with hx | hx
              · exact .inl (.inl ((a2 x).1 hx))
              · exact .inl (.inr ((prE a1 b2 x).1 hx))
            · exact .inr ((prE a1 c2 x).1 hx)
          cases hm6 : m6 with
          | false =>
            have q5 := y6 hm6
            have q4 := y5 q5
            have q3 := y4 q4
            have al4 : Alike O4 (un (un [] (pr T T1)) (pr T T2)) := fun x => ⟨lo4 x, fun hx => by
              rw [mem_un, mem_un] at hx
              rcases hx with (hx | hx) | hx
              · simp at hx
              · exact g4.up x (g3.all q3 x ((prE a1 b1 x).2 hx))
              · exact g4.all q4 x ((prE a1 c1 x).2 hx)⟩
            have al6 : Alike O6 (un (un F (pr T F1)) (pr T F2)) := fun x => ⟨lo6 x, fun hx => by
              rw [mem_un, mem_un] at hx
              rcases hx with (hx | hx) | hx
              · exact g6.up x (g5.up x ((a2 x).2 hx))
              · exact g6.up x (g5.all q5 x ((prE a1 b2 x).2 hx))
              · exact g6.all hm6 x ((prE a1 c2 x).2 hx)⟩
            unfold choiceS
            rw [if_pos (by rw [← al4.small n4 nT]; exact z4 q4), if_pos (by rw [← al6.small n6 nF]; exact z6 hm6)]
            exact ⟨rfl, al4, al6, nT, nF⟩
          | true =>
            have : choiceS (T1, F1) (T2, F2) (T, F) = none := by
              unfold choiceS
              cases hm4 : m4 with
              | true =>
                have : small O4 = false := by
                  have w4 := g4.mny
                  have w3 := g3.mny
                  rw [h2m, Bool.false_or] at w3
                  rw [hm4, w3] at w4
                  cases hq : small O3
                  · exact small_up (j3.nodup i3.nd) g4.up hq
                  · rw [hq] at w4; simpa using w4
                rw [if_neg (by simp [small_up n4 lo4 this])]
              | false =>
                have : small O6 = false := by
                  have w6 := g6.mny
                  have w5 := g5.mny
                  rw [hm4, Bool.false_or] at w5
                  rw [hm6, w5] at w6
                  cases hq : small O5
                  · exact small_up (j5.nodup i5.nd) g6.up hq
                  · rw [hq] at w6; simpa using w6
                rw [if_neg (c := small (un (un F (pr T F1)) (pr T F2)) = true) (by simp [small_up n6 lo6 this])]
                split <;> rfl
            rw [this]
            rfl
end
section
variable {N : Nat} (hN : maxRow < N) {V P Tm : List (List UInt8)} {Nd : List Node} {fl : List Expr → Bool} (hP : P.length < maxRow)
/-- The rounds of a loop. -/
theorem loop_ok {d e : Nat} (ha : ActsOk N V P Tm Nd fl d e) {a : Act} (hd : dep N fl d a.Then) {w1 : List Act} {w2 w3 : Int} {q1 : List Next} {q2 : List Int} (c : Nat) (hc : c ≤ 16) {K : Kt} :
    ∀ (n i : Nat), i ≤ c → c - i < n → ∀ (D : List MR) (s : BS) (X Y : List MR) (o : Option St2), OkB D s X Y → Sim s X Y o → D.length + (c - i) * cst d a.Then ≤ maxRow → Goes D (o.bind (loopS (sp fl P d a.Then) (c - i))) ((c - i) * cst d a.Then) K →
    effect_rows_acts_l3 (Fam_effect_rows_inner_at N e) N w1 w2 w3 (c : Int) V P Tm Nd q1 q2 a.Kind a.Name a.Event a.X a.N a.Then a.Else a.At K n (i : Int) s.many s.kn s.kcl s.both s.f s.fcl s.l s.long s.t s.tcl = some ()
  | 0, _, _, h, _, _, _, _, _, _, _, _, _ => by omega
  | n + 1, i, hi, hn, D, s, X, Y, o, h, hs, hb, hk => by
    show effect_rows_acts_l3_b (Fam_effect_rows_inner_at N e) N w1 w2 w3 (c : Int) V P Tm Nd q1 q2 a.Kind a.Name a.Event a.X a.N a.Then a.Else a.At K (effect_rows_acts_l3 (Fam_effect_rows_inner_at N e) N w1 w2 w3 (c : Int) V P Tm Nd q1 q2 a.Kind a.Name a.Event a.X a.N a.Then a.Else a.At K n) (i : Int) s.many s.kn s.kcl s.both s.f s.fcl s.l s.long s.t s.tcl = some ()
    unfold effect_rows_acts_l3_b
    by_cases hlt : i < c
    · rw [if_pos (by simpa using hlt)]
      obtain ⟨m, hm⟩ : ∃ m, c - i = m + 1 := ⟨c - i - 1, by omega⟩
      have hm' : c - (i + 1) = m := by omega
      rw [hm] at hb hk
      rw [Nat.succ_mul] at hb hk
      have hw : IntKind.wrap .i64 ((i : Int) + 1) = ((i + 1 : Nat) : Int) := by rw [wr _ (by omega) (by omega)]; omega
      refine ha a.Then hd D s X Y o _ h hs (by omega) fun D' s' X' Y' h1 h2 h3 h4 => ?_
      simp only [hw]
      refine loop_ok ha hd c hc n (i + 1) (by omega) (by omega) D' s' X' Y' _ h3 h4 (by rw [hm']; omega) ?_
      rw [hm']
      have e : (o.bind (loopS (sp fl P d a.Then) (m + 1))) = (o.bind (sp fl P d a.Then)).bind (loopS (sp fl P d a.Then) m) := by
        cases o with
        | none => rfl
        | some st => rfl
      rw [← e]
      exact hk.next h1 (by omega)
    · rw [if_neg (by simpa using hlt)]
      have : c - i = 0 := by omega
      rw [this] at hk
      refine hk D s X Y (List.prefix_refl _) (by omega) h ?_
      cases o with
      | none => exact hs
      | some st => exact hs
include hN hP
/-- One act. -/
theorem act_ok {d e : Nat} (hde : 3 * d ≤ e) (ha : ∀ e', 3 * d ≤ e' → ActsOk N V P Tm Nd fl d e') {a : Act} (h6 : a.Kind = 6 → dep N fl d a.Then ∧ dep N fl d a.Else) (h7 : a.Kind = 7 → dep N fl d a.Then) {w1 : List Act} {w2 w3 : Int} {q1 : List Next} {q2 : List Int}
    {D : List MR} {s : BS} {X Y : List MR} {o : Option St2} (h : OkB D s X Y) (hs : Sim s X Y o) (hb : D.length + (1100000 + rnd a * cst d a.Then + cst d a.Then + cst d a.Else) ≤ maxRow) {K : Kt}
    (hk : Goes D (o.bind fun s => if (a.Kind == 2) = true then markS ⟨-1, a.Event⟩ s
  else if (a.Kind == 3) = true then markS ⟨idxS P a.Name 0, a.Event⟩ s
  else if (a.Kind == 6) = true then (sp fl P d a.Then ([[]], [])).bind fun y => (sp fl P d a.Else ([[]], [])).bind fun z => choiceS y z s
  else if (a.Kind == 7) = true then loopS (sp fl P d a.Then) (if 16 < a.N then 16 else a.N).toNat s
  else some s) (1100000 + rnd a * cst d a.Then + cst d a.Then + cst d a.Else) K) :
    effect_rows_acts_c6 (Fam_effect_rows_inner_at N (e + 2)) N w1 w2 w3 V P Tm Nd s.many q1 q2 s.kn s.kcl s.both s.f s.fcl s.l s.long s.t s.tcl a.Kind a.Name a.Event a.X a.N a.Then a.Else a.At K = some () := by
  unfold effect_rows_acts_c6
  by_cases k2 : (a.Kind == 2) = true
  · rw [if_pos k2]
    simp only [if_pos k2] at hk
    exact markB hN h hs (by omega) (m := ⟨-1, a.Event⟩) (hk.next (List.prefix_refl _) (by omega))
  · rw [if_neg k2]
    simp only [if_neg k2] at hk
    by_cases k3 : (a.Kind == 3) = true
    · rw [if_pos k3]
      simp only [if_pos k3] at hk
      rw [idx_eq hN hP]
      exact markB hN h hs (by omega) (m := ⟨idxS P a.Name 0, a.Event⟩) (hk.next (List.prefix_refl _) (by omega))
    · rw [if_neg k3]
      simp only [if_neg k3] at hk
      by_cases k6 : (a.Kind == 6) = true
      · rw [if_pos k6]
        simp only [if_pos k6] at hk
        obtain ⟨d1, d2⟩ := h6 (by simpa using k6)
        exact choice_ok hN (ha e hde) d1 d2 h hs (by omega) (hk.next (List.prefix_refl _) (by omega))
      · rw [if_neg k6]
        simp only [if_neg k6] at hk
        by_cases k7 : (a.Kind == 7) = true
        · rw [if_pos k7]
          simp only [if_pos k7] at hk
          have d1 := h7 (by simpa using k7)
          by_cases hneg : a.N < 0
          · have e1 : (if 16 < a.N then 16 else a.N) = a.N := if_neg (by omega)
            rw [e1] at hk ⊢
            obtain ⟨n, rfl⟩ : ∃ n, N = n + 1 := ⟨N - 1, by omega⟩
            show effect_rows_acts_l3_b _ (n + 1) w1 w2 w3 a.N V P Tm Nd q1 q2 a.Kind a.Name a.Event a.X a.N a.Then a.Else a.At K _ 0 s.many s.kn s.kcl s.both s.f s.fcl s.l s.long s.t s.tcl = some ()
            unfold effect_rows_acts_l3_b
            rw [if_neg (by simp; omega)]
            rw [show a.N.toNat = 0 by omega] at hk
            refine hk D s X Y (List.prefix_refl _) (by omega) h ?_
            cases o <;> exact hs
          · obtain ⟨c, hc⟩ : ∃ c : Nat, (if 16 < a.N then 16 else a.N) = (c : Int) := ⟨(if 16 < a.N then 16 else a.N).toNat, by split <;> omega⟩
            have hc16 : c ≤ 16 := by split at hc <;> omega
            rw [hc] at hk ⊢
            rw [Int.toNat_natCast] at hk
            have hr : rnd a = c := by unfold rnd; rw [hc]; rfl
            rw [hr] at hb hk
            have hmul : (c - 0) * cst d a.Then = c * cst d a.Then := rfl
            exact loop_ok (ha (e + 2) (by omega)) d1 c hc16 N 0 (by omega) (by simp only [maxRow] at hN; omega) D s X Y o h hs (by omega) (hk.next (List.prefix_refl _) (by omega))
        · rw [if_neg k7]
          simp only [if_neg k7] at hk
          refine hk D s X Y (List.prefix_refl _) (by omega) h ?_
          cases o <;> exact hs

theorem acts_l0_ok {d e : Nat} (hde : 3 * d ≤ e) (ha : ∀ e', 3 * d ≤ e' → ActsOk N V P Tm Nd fl d e') {l : List Act} (hd : dep N fl (d + 1) l) {q1 : List Next} {q2 : List Int} {K : Kt} :
    ∀ (n i : Nat), i ≤ l.length → l.length - i < n → ∀ (D : List MR) (s : BS) (X Y : List MR) (o : Option St2), OkB D s X Y → Sim s X Y o → D.length + cstL (fun a => 1100000 + rnd a * cst d a.Then + cst d a.Then + cst d a.Else) (l.drop i) ≤ maxRow →
    Goes D (o.bind (actsS (actS fl P (sp fl P d)) (l.drop i))) (cstL (fun a => 1100000 + rnd a * cst d a.Then + cst d a.Then + cst d a.Else) (l.drop i)) K →
    effect_rows_acts_l0 (Fam_effect_rows_inner_at N (e + 2)) N l ((l.length : Nat) : Int) V P Tm Nd q1 q2 (fun y150 y151 y152 y153 y154 y155 y156 y157 y158 y159 => K y150 y151 y152 y153 y154 y155 y156 y157 y158 y159) (fun y150 y151 y152 y153 y154 y155 y156 y157 y158 y159 => K y150 y151 y152 y153 y154 y155 y156 y157 y158 y159) n (i : Int) s.many s.kn s.kcl s.both s.f s.fcl s.l s.long s.t s.tcl = some ()
  | 0, _, _, h, _, _, _, _, _, _, _, _, _ => by omega
  | n + 1, i, hi, hn, D, s, X, Y, o, h, hs, hb, hk => by
    show effect_rows_acts_l0_b (Fam_effect_rows_inner_at N (e + 2)) N l ((l.length : Nat) : Int) V P Tm Nd q1 q2 _ _ (effect_rows_acts_l0 (Fam_effect_rows_inner_at N (e + 2)) N l ((l.length : Nat) : Int) V P Tm Nd q1 q2 _ _ n) (i : Int) s.many s.kn s.kcl s.both s.f s.fcl s.l s.long s.t s.tcl = some ()
    unfold effect_rows_acts_l0_b
    have hlen := hd.1
    simp only [maxRow] at hlen
    by_cases hlt : i < l.length
    · rw [if_pos (by simpa using hlt), at_nat]
      obtain ⟨a, ha1, hdr⟩ := drop_cons hlt
      rw [ha1, Option.bind_some]
      rw [hdr] at hb hk
      simp only [cstL, actsS] at hb hk
      obtain ⟨hx, h6, h7⟩ := hd.2 a (List.mem_of_getElem? ha1)
      by_cases hm : s.many = true
      · rw [if_pos hm]
        refine hk D s X Y (List.prefix_refl _) (by omega) h ?_
        have := hs.none_iff hm
        subst this
        exact hs
      · rw [if_neg hm]
        have hw : IntKind.wrap .i64 ((i : Int) + 1) = ((i + 1 : Nat) : Int) := by rw [wr _ (by omega) (by omega)]; omega
        rw [hx]
        have hc : (ifB (a.Kind == 4) false (some (fl a.X)) (some true)) = some (a.Kind == 4 || fl a.X) := by
          cases a.Kind == 4 <;> simp [ifB]
        rw [hc, Option.bind_some]
        have eq : o.bind (fun st => (actS fl P (sp fl P d) a st).bind (actsS (actS fl P (sp fl P d)) (l.drop (i + 1)))) = (o.bind (actS fl P (sp fl P d) a)).bind (actsS (actS fl P (sp fl P d)) (l.drop (i + 1))) := by
          cases o <;> rfl
        rw [eq] at hk
        have fin : ∀ (D1 : List MR) (s1 : BS) (X1 Y1 : List MR), D <+: D1 → D1.length ≤ D.length + (1100000 + rnd a * cst d a.Then + cst d a.Then + cst d a.Else) → OkB D1 s1 X1 Y1 → Sim s1 X1 Y1 (o.bind (actS fl P (sp fl P d) a)) →
            effect_rows_acts_l0 (Fam_effect_rows_inner_at N (e + 2)) N l ((l.length : Nat) : Int) V P Tm Nd q1 q2 (fun y150 y151 y152 y153 y154 y155 y156 y157 y158 y159 => K y150 y151 y152 y153 y154 y155 y156 y157 y158 y159) (fun y150 y151 y152 y153 y154 y155 y156 y157 y158 y159 => K y150 y151 y152 y153 y154 y155 y156 y157 y158 y159) n (IntKind.wrap .i64 ((i : Int) + 1)) s1.many s1.kn s1.kcl s1.both s1.f s1.fcl s1.l s1.long s1.t s1.tcl = some () := by
          intro D1 s1 X1 Y1 g1 g2 g3 g4
          rw [hw]
          exact acts_l0_ok hde ha hd n (i + 1) (by omega) (by omega) D1 s1 X1 Y1 _ g3 g4 (by omega) (hk.next g1 (by omega))
        by_cases hf : (a.Kind == 4 || fl a.X) = true
        · rw [if_pos hf]
          refine failB hN h hs (c := 0) (K := fun many kn kcl both f fcl l4 long4 t tcl => effect_rows_acts_c6 (Fam_effect_rows_inner_at N (e + 2)) N l _ _ V P Tm Nd many q1 q2 kn kcl both f fcl l4 long4 t tcl a.Kind a.Name a.Event a.X a.N a.Then a.Else a.At _) ?_
          intro D1 s1 X1 Y1 g1 g2 g3 g4
          refine act_ok hN hP hde ha h6 h7 g3 g4 (by omega) fun D2 s2 X2 Y2 f1 f2 f3 f4 => fin D2 s2 X2 Y2 (g1.trans f1) (by omega) f3 ?_
          have : o.bind (actS fl P (sp fl P d) a) = (o.bind failS).bind (fun s => if (a.Kind == 2) = true then markS ⟨-1, a.Event⟩ s
  else if (a.Kind == 3) = true then markS ⟨idxS P a.Name 0, a.Event⟩ s
  else if (a.Kind == 6) = true then (sp fl P d a.Then ([[]], [])).bind fun y => (sp fl P d a.Else ([[]], [])).bind fun z => choiceS y z s
  else if (a.Kind == 7) = true then loopS (sp fl P d a.Then) (if 16 < a.N then 16 else a.N).toNat s
  else some s) := by
            cases o with
            | none => rfl
            | some st => simp only [Option.bind_some, actS, if_pos hf]
          rw [this]
          exact f4
        · rw [if_neg hf]
          refine act_ok hN hP hde ha h6 h7 h hs (by omega) fun D1 s1 X1 Y1 g1 g2 g3 g4 => fin D1 s1 X1 Y1 g1 g2 g3 ?_
          have : o.bind (actS fl P (sp fl P d) a) = o.bind (fun s => if (a.Kind == 2) = true then markS ⟨-1, a.Event⟩ s
  else if (a.Kind == 3) = true then markS ⟨idxS P a.Name 0, a.Event⟩ s
  else if (a.Kind == 6) = true then (sp fl P d a.Then ([[]], [])).bind fun y => (sp fl P d a.Else ([[]], [])).bind fun z => choiceS y z s
  else if (a.Kind == 7) = true then loopS (sp fl P d a.Then) (if 16 < a.N then 16 else a.N).toNat s
  else some s) := by
            cases o with
            | none => rfl
            | some st => simp only [Option.bind_some, actS, if_neg hf]
          rw [this]
          exact g4
    · rw [if_neg (by simpa using hlt)]
      rw [List.drop_eq_nil_of_le (by omega)] at hk
      refine hk D s X Y (List.prefix_refl _) (by omega) h ?_
      cases o <;> exact hs
theorem acts_ok : ∀ (d e : Nat), 3 * d ≤ e → ActsOk N V P Tm Nd fl d e
  | 0, e, he => fun l hd => hd.elim
  | d + 1, e, he => by
    intro l hd D s X Y o K h hs hb hk
    obtain ⟨e', rfl⟩ : ∃ e', e = e' + 3 := ⟨e - 3, by omega⟩
    rw [effect_rows_acts_at]
    unfold effect_rows_acts_d
    exact acts_l0_ok hN hP (e := e') (by omega) (fun e2 h2 => acts_ok d e2 h2) hd N 0 (by omega) (by have := hd.1; omega) D s X Y o h hs hb hk
end
/-- All beginnings. -/
def pfx : MR → List MR
  | [] => [[]]
  | a :: l => [] :: (pfx l).map (a :: ·)
theorem mem_pfx : ∀ {x y : MR}, y ∈ pfx x ↔ y <+: x
  | [], y => by simp [pfx]
  | a :: l, y => by
    simp only [pfx, List.mem_cons, List.mem_map]
    constructor
    · rintro (rfl | ⟨z, hz, rfl⟩)
      · exact List.nil_prefix
      · obtain ⟨w, hw⟩ := mem_pfx.1 hz
        exact ⟨w, by simp [hw]⟩
    · rintro ⟨w, hw⟩
      cases y with
      | nil => exact .inl rfl
      | cons b y =>
        simp only [List.cons_append, List.cons.injEq] at hw
        obtain ⟨rfl, hw⟩ := hw
        exact .inr ⟨y, mem_pfx.2 ⟨w, hw⟩, rfl⟩
def cutS (s : St2) : Option St2 := if small (un s.2 ((s.1 ++ s.2).flatMap pfx)) = true then some (s.1, un s.2 ((s.1 ++ s.2).flatMap pfx)) else none
theorem pfx_snoc {x y : MR} {m : Mark} : y <+: x ++ [m] ↔ y = x ++ [m] ∨ y <+: x := by
  constructor
  · rintro ⟨w, hw⟩
    rcases List.eq_nil_or_concat w with rfl | ⟨w', b, hb⟩
    · left; simpa using hw
    · right
      subst hb
      rw [List.concat_eq_append, ← List.append_assoc] at hw
      exact ⟨w', (List.append_inj' hw rfl).1⟩
  · rintro (rfl | ⟨w, rfl⟩)
    · exact List.prefix_refl _
    · exact ⟨w ++ [m], by simp⟩
section
variable {N : Nat} {V P Tm : List (List UInt8)} {Nd : List Node}

theorem l4_ok {v3 v4 : Nat} {v5 v6 : Int} {both : Bool} {t c : SetL} {tcl ccl v23 : Nat} {v24 : List Nat} {v25 : Nat} {D l long kn} (h : GD D l long kn) {kcl : Nat} {many : Bool} {kp0 : Bool → SetL → Nat → Option Unit} :
    ∀ (n i : Nat) (x : MR) (Y : List MR) (f : SetL) (fcl : Nat), D[i]? = some x → x.length < n → SetIs D f fcl Y →
    (∀ f' fcl' Y', SetIs D f' fcl' Y' → (∀ y, y ∈ Y' ↔ y ∈ Y ∨ (y <+: x ∧ y ≠ [])) → kp0 (many || !small Y') f' fcl' = some ()) →
    effect_rows_cut_l4 N v3 v4 v5 v6 V P Tm Nd l long kn kcl both t tcl c ccl v23 v24 v25 kp0 n (i : Int) (many || !small Y) f fcl = some ()
  | 0, _, _, _, _, _, _, h, _, _ => by omega
  | n + 1, i, x, Y, f, fcl, hi, hn, hf, hk => by
    show effect_rows_cut_l4_b N v3 v4 v5 v6 V P Tm Nd l long kn kcl both t tcl c ccl v23 v24 v25 kp0 (effect_rows_cut_l4 N v3 v4 v5 v6 V P Tm Nd l long kn kcl both t tcl c ccl v23 v24 v25 kp0 n) (i : Int) (many || !small Y) f fcl = some ()
    unfold effect_rows_cut_l4_b
    rcases Nat.eq_zero_or_pos i with e | hp
    · subst e
      rw [if_neg (by simp)]
      rw [h.z] at hi
      cases hi
      refine hk f fcl Y hf fun y => ⟨.inl, ?_⟩
      rintro (hy | ⟨hy, hne⟩)
      · exact hy
      · exact absurd (List.prefix_nil.1 hy) hne
    · rw [if_pos (by simp; omega)]
      obtain ⟨p, y, m, h4, h5, h6, h7⟩ := h.nx i x hp hi
      subst h6
      have hil := get_lt hi
      have hl := h.len
      obtain ⟨f', fcl', g1, g2⟩ := put_eq (N := N) h hf hi (V := V) (P := P) (T := Tm) (Nd := Nd) (many := many || !small Y) (kcl := kcl) (k0 := fun (r52 : Bool) (r53 : SetL) (r54 : Nat) =>
        if (0 : Int) ≤ (i : Int) ∧ (i : Int) < (l.length : Int) then (match l[(i : Int).toNat]? with
          | some e55 => (effect_rows_cut_l4 N v3 v4 v5 v6 V P Tm Nd l long kn kcl both t tcl c ccl v23 v24 v25 kp0 n e55.row r52 r53 r54)
          | none => none) else none)
      refine g2.trans ?_
      rw [many_ins, if_pos ⟨by omega, by omega⟩]
      rw [Int.toNat_natCast, h7]
      simp only []
      refine l4_ok h n p y _ f' fcl' h5 (by simp at hn; omega) g1 fun f2 fcl2 Y2 k1 k2 => hk f2 fcl2 Y2 k1 fun z => ?_
      rw [k2, mem_ins, pfx_snoc]
      constructor
      · rintro ((hz | rfl) | ⟨hz, hne⟩)
        · exact .inl hz
        · exact .inr ⟨.inl rfl, by simp⟩
        · exact .inr ⟨.inr hz, hne⟩
      · rintro (hz | ⟨rfl | hz, hne⟩)
        · exact .inl (.inl hz)
        · exact .inl (.inr rfl)
        · exact .inr ⟨hz, hne⟩
theorem l2_ok (hN : maxRow < N) {v3 v4 : Nat} {v5 v6 : Int} {both : Bool} {t c : SetL} {tcl ccl : Nat} {D l long kn} (h : GD D l long kn) {X : List MR} (ht : SetIs D t tcl X) {kcl : Nat} {many : Bool} {kp0 : Bool → SetL → Nat → Option Unit} {Y : List MR} {f : SetL} {fcl : Nat} (hf : SetIs D f fcl Y)
    (hk : ∀ f' fcl' Y', SetIs D f' fcl' Y' → (∀ y, y ∈ Y' ↔ y ∈ Y ∨ ∃ x ∈ X, y <+: x) → kp0 (many || !small Y') f' fcl' = some ()) :
    effect_rows_cut_l2 N v3 v4 v5 v6 V P Tm Nd l long kn kcl both t tcl c ccl tcl kp0 N (many || !small Y) f fcl [] tcl = some () := by
  refine range_ok (σ := Bool × SetL × Nat) ht.st ht.lt
    (fun n s seen => effect_rows_cut_l2 N v3 v4 v5 v6 V P Tm Nd l long kn kcl both t tcl c ccl tcl kp0 n s.1 s.2.1 s.2.2 seen tcl)
    (fun s => kp0 s.1 s.2.1 s.2.2)
    (fun seen s n26 rec => if tcl = tcl then (match findB n26.2.2 t with
  | some en27 => (effect_rows_cut_l4 N v3 v4 v5 v6 V P Tm Nd l long kn kcl both t tcl c ccl tcl (n26.2.2 :: seen) tcl (fun (y56 : Bool) (y57 : List (List Sc × Bool × Nat)) (y58 : Nat) =>
  effect_rows_put N 0 V P Tm Nd y56 l long kn kcl y57 y58 (fun (r59 : Bool) (r60 : List (List Sc × Bool × Nat)) (r61 : Nat) =>
  rec (r59, r60, r61))) N (scI en27.1) s.1 s.2.1 s.2.2)
  | none => none) else none)
    (fun n s seen => rfl)
    (fun W s => ∃ Y', SetIs D s.2.1 s.2.2 Y' ∧ s.1 = (many || !small Y') ∧ ∀ y, y ∈ Y' ↔ y ∈ Y ∨ ∃ x, AtV D W x ∧ y <+: x) ?_ ?_ N [] (many || !small Y, f, fcl) ⟨Y, hf, rfl, fun y => ⟨.inl, fun h => h.elim id fun ⟨x, h, _⟩ => absurd h atV_nil⟩⟩ (by simp) List.nodup_nil ?_
  · rintro seen W ⟨a, b, c'⟩ e rec ⟨Y', h1, h2, h3⟩ hW hWn he hne hrec
    rw [if_pos rfl, findB_mem ht.st he]
    obtain ⟨i, x, h8, h9, h10⟩ := ht.ent he
    simp only [] at h1 h2 ⊢
    rw [h8, scI_kI, h2]
    refine l4_ok h N i x Y' b c' h9 (by have := h.sm x (get_mem h9); have := h.bnd; omega) h1 fun f2 fcl2 Y2 k1 k2 => ?_
    obtain ⟨f3, fcl3, g1, g2⟩ := put_eq (N := N) h k1 h.z (V := V) (P := P) (T := Tm) (Nd := Nd) (many := many || !small Y2) (kcl := kcl) (k0 := fun (r59 : Bool) (r60 : SetL) (r61 : Nat) => rec (r59, r60, r61))
    have g2' : effect_rows_put N 0 V P Tm Nd (many || !small Y2) l long kn kcl f2 fcl2 (fun (r59 : Bool) (r60 : SetL) (r61 : Nat) => rec (r59, r60, r61)) = _ := g2
    rw [g2', many_ins]
    refine hrec _ ⟨ins Y2 [], g1, rfl, fun y => ?_⟩
    rw [mem_ins, k2, h3]
    constructor
    · rintro (((hy | ⟨z, hz, hy⟩) | ⟨hy, _⟩) | rfl)
      · exact .inl hy
      · exact .inr ⟨z, (atV_cons h8 h9).2 (.inr hz), hy⟩
      · exact .inr ⟨x, (atV_cons h8 h9).2 (.inl rfl), hy⟩
      · exact .inr ⟨x, (atV_cons h8 h9).2 (.inl rfl), List.nil_prefix⟩
    · rintro (hy | ⟨z, hz, hy⟩)
      · exact .inl (.inl (.inl hy))
      · rcases (atV_cons h8 h9).1 hz with rfl | hz
        · by_cases hne : y = []
          · exact .inr hne
          · exact .inl (.inr ⟨hy, hne⟩)
        · exact .inl (.inl (.inr ⟨z, hz, hy⟩))
  · rintro W ⟨a, b, c'⟩ h1 h2 hWn ⟨Y', h3, h4, h5⟩
    simp only [] at h3 h4 ⊢
    rw [h4]
    refine hk b c' Y' h3 fun y => ?_
    rw [h5]
    constructor
    · rintro (hy | ⟨z, hz, hy⟩)
      · exact .inl hy
      · exact .inr ⟨z, (atV_all ht h1 h2).1 hz, hy⟩
    · rintro (hy | ⟨z, hz, hy⟩)
      · exact .inl hy
      · exact .inr ⟨z, (atV_all ht h1 h2).2 hz, hy⟩
  · refine Nat.lt_of_le_of_lt (unseen_le _ _) ?_
    have := ht.le h.nd
    have := ht.len
    have := h.bnd
    omega

theorem l1004_ok {v3 v4 : Nat} {v5 v6 : Int} {both : Bool} {t c : SetL} {tcl ccl v23 : Nat} {v24 : List Nat} {v25 : Nat} {D l long kn} (h : GD D l long kn) {kcl : Nat} {many : Bool} {kp0 : Bool → SetL → Nat → Option Unit} :
    ∀ (n i : Nat) (x : MR) (Y : List MR) (f : SetL) (fcl : Nat), D[i]? = some x → x.length < n → SetIs D f fcl Y →
    (∀ f' fcl' Y', SetIs D f' fcl' Y' → (∀ y, y ∈ Y' ↔ y ∈ Y ∨ (y <+: x ∧ y ≠ [])) → kp0 (many || !small Y') f' fcl' = some ()) →
    effect_rows_cut_l1004 N v3 v4 v5 v6 V P Tm Nd l long kn kcl both t tcl c ccl v23 v24 v25 kp0 n (i : Int) (many || !small Y) f fcl = some ()
  | 0, _, _, _, _, _, _, h, _, _ => by omega
  | n + 1, i, x, Y, f, fcl, hi, hn, hf, hk => by
    show effect_rows_cut_l1004_b N v3 v4 v5 v6 V P Tm Nd l long kn kcl both t tcl c ccl v23 v24 v25 kp0 (effect_rows_cut_l1004 N v3 v4 v5 v6 V P Tm Nd l long kn kcl both t tcl c ccl v23 v24 v25 kp0 n) (i : Int) (many || !small Y) f fcl = some ()
    unfold effect_rows_cut_l1004_b
    rcases Nat.eq_zero_or_pos i with e | hp
    · subst e
      rw [if_neg (by simp)]
      rw [h.z] at hi
      cases hi
      refine hk f fcl Y hf fun y => ⟨.inl, ?_⟩
      rintro (hy | ⟨hy, hne⟩)
      · exact hy
      · exact absurd (List.prefix_nil.1 hy) hne
    · rw [if_pos (by simp; omega)]
      obtain ⟨p, y, m, h4, h5, h6, h7⟩ := h.nx i x hp hi
      subst h6
      have hil := get_lt hi
      have hl := h.len
      obtain ⟨f', fcl', g1, g2⟩ := put_eq (N := N) h hf hi (V := V) (P := P) (T := Tm) (Nd := Nd) (many := many || !small Y) (kcl := kcl) (k0 := fun (r52 : Bool) (r53 : SetL) (r54 : Nat) =>
        if (0 : Int) ≤ (i : Int) ∧ (i : Int) < (l.length : Int) then (match l[(i : Int).toNat]? with
          | some e55 => (effect_rows_cut_l1004 N v3 v4 v5 v6 V P Tm Nd l long kn kcl both t tcl c ccl v23 v24 v25 kp0 n e55.row r52 r53 r54)
          | none => none) else none)
      refine g2.trans ?_
      rw [many_ins, if_pos ⟨by omega, by omega⟩]
      rw [Int.toNat_natCast, h7]
      simp only []
      refine l1004_ok h n p y _ f' fcl' h5 (by simp at hn; omega) g1 fun f2 fcl2 Y2 k1 k2 => hk f2 fcl2 Y2 k1 fun z => ?_
      rw [k2, mem_ins, pfx_snoc]
      constructor
      · rintro ((hz | rfl) | ⟨hz, hne⟩)
        · exact .inl hz
        · exact .inr ⟨.inl rfl, by simp⟩
        · exact .inr ⟨.inr hz, hne⟩
      · rintro (hz | ⟨rfl | hz, hne⟩)
        · exact .inl (.inl hz)
        · exact .inl (.inr rfl)
        · exact .inr ⟨hz, hne⟩
theorem l1002_ok (hN : maxRow < N) {v3 v4 : Nat} {v5 v6 : Int} {both : Bool} {t c : SetL} {tcl ccl : Nat} {D l long kn} (h : GD D l long kn) {X : List MR} (ht : SetIs D c ccl X) {kcl : Nat} {many : Bool} {kp0 : Bool → SetL → Nat → Option Unit} {Y : List MR} {f : SetL} {fcl : Nat} (hf : SetIs D f fcl Y)
    (hk : ∀ f' fcl' Y', SetIs D f' fcl' Y' → (∀ y, y ∈ Y' ↔ y ∈ Y ∨ ∃ x ∈ X, y <+: x) → kp0 (many || !small Y') f' fcl' = some ()) :
    effect_rows_cut_l1002 N v3 v4 v5 v6 V P Tm Nd l long kn kcl both t tcl c ccl ccl kp0 N (many || !small Y) f fcl [] ccl = some () := by
  refine range_ok (σ := Bool × SetL × Nat) ht.st ht.lt
    (fun n s seen => effect_rows_cut_l1002 N v3 v4 v5 v6 V P Tm Nd l long kn kcl both t tcl c ccl ccl kp0 n s.1 s.2.1 s.2.2 seen ccl)
    (fun s => kp0 s.1 s.2.1 s.2.2)
    (fun seen s n26 rec => if ccl = ccl then (match findB n26.2.2 c with
  | some en27 => (effect_rows_cut_l1004 N v3 v4 v5 v6 V P Tm Nd l long kn kcl both t tcl c ccl ccl (n26.2.2 :: seen) ccl (fun (y56 : Bool) (y57 : List (List Sc × Bool × Nat)) (y58 : Nat) =>
  effect_rows_put N 0 V P Tm Nd y56 l long kn kcl y57 y58 (fun (r59 : Bool) (r60 : List (List Sc × Bool × Nat)) (r61 : Nat) =>
  rec (r59, r60, r61))) N (scI en27.1) s.1 s.2.1 s.2.2)
  | none => none) else none)
    (fun n s seen => rfl)
    (fun W s => ∃ Y', SetIs D s.2.1 s.2.2 Y' ∧ s.1 = (many || !small Y') ∧ ∀ y, y ∈ Y' ↔ y ∈ Y ∨ ∃ x, AtV D W x ∧ y <+: x) ?_ ?_ N [] (many || !small Y, f, fcl) ⟨Y, hf, rfl, fun y => ⟨.inl, fun h => h.elim id fun ⟨x, h, _⟩ => absurd h atV_nil⟩⟩ (by simp) List.nodup_nil ?_
  · rintro seen W ⟨a, b, c'⟩ e rec ⟨Y', h1, h2, h3⟩ hW hWn he hne hrec
    rw [if_pos rfl, findB_mem ht.st he]
    obtain ⟨i, x, h8, h9, h10⟩ := ht.ent he
    simp only [] at h1 h2 ⊢
    rw [h8, scI_kI, h2]
    refine l1004_ok h N i x Y' b c' h9 (by have := h.sm x (get_mem h9); have := h.bnd; omega) h1 fun f2 fcl2 Y2 k1 k2 => ?_
    obtain ⟨f3, fcl3, g1, g2⟩ := put_eq (N := N) h k1 h.z (V := V) (P := P) (T := Tm) (Nd := Nd) (many := many || !small Y2) (kcl := kcl) (k0 := fun (r59 : Bool) (r60 : SetL) (r61 : Nat) => rec (r59, r60, r61))
    have g2' : effect_rows_put N 0 V P Tm Nd (many || !small Y2) l long kn kcl f2 fcl2 (fun (r59 : Bool) (r60 : SetL) (r61 : Nat) => rec (r59, r60, r61)) = _ := g2
    rw [g2', many_ins]
    refine hrec _ ⟨ins Y2 [], g1, rfl, fun y => ?_⟩
    rw [mem_ins, k2, h3]
    constructor
    · rintro (((hy | ⟨z, hz, hy⟩) | ⟨hy, _⟩) | rfl)
      · exact .inl hy
      · exact .inr ⟨z, (atV_cons h8 h9).2 (.inr hz), hy⟩
      · exact .inr ⟨x, (atV_cons h8 h9).2 (.inl rfl), hy⟩
      · exact .inr ⟨x, (atV_cons h8 h9).2 (.inl rfl), List.nil_prefix⟩
    · rintro (hy | ⟨z, hz, hy⟩)
      · exact .inl (.inl (.inl hy))
      · rcases (atV_cons h8 h9).1 hz with rfl | hz
        · by_cases hne : y = []
          · exact .inr hne
          · exact .inl (.inr ⟨hy, hne⟩)
        · exact .inl (.inl (.inr ⟨z, hz, hy⟩))
  · rintro W ⟨a, b, c'⟩ h1 h2 hWn ⟨Y', h3, h4, h5⟩
    simp only [] at h3 h4 ⊢
    rw [h4]
    refine hk b c' Y' h3 fun y => ?_
    rw [h5]
    constructor
    · rintro (hy | ⟨z, hz, hy⟩)
      · exact .inl hy
      · exact .inr ⟨z, (atV_all ht h1 h2).1 hz, hy⟩
    · rintro (hy | ⟨z, hz, hy⟩)
      · exact .inl hy
      · exact .inr ⟨z, (atV_all ht h1 h2).2 hz, hy⟩
  · refine Nat.lt_of_le_of_lt (unseen_le _ _) ?_
    have := ht.le h.nd
    have := ht.len
    have := h.bnd
    omega

theorem copied_ok (hN : maxRow < N) {D l long kn} (h : GD D l long kn) {s : SetL} {cl : Nat} {X : List MR} (ht : SetIs D s cl X) {k0 : SetL → Nat → Option Unit}
    (hk : ∀ c ccl Y, SetIs D c ccl Y → (∀ x, x ∈ Y ↔ x ∈ X) → k0 c ccl = some ()) : effect_copied N s cl k0 = some () := by
  unfold effect_copied
  refine range_ok (σ := SetL × Nat) ht.st ht.lt
    (fun n o seen => effect_copied_l0 N s cl cl (fun (y10 : List (List Sc × Bool × Nat)) (y11 : Nat) => k0 y10 y11) n o.1 o.2 seen cl)
    (fun o => k0 o.1 o.2)
    (fun seen o n8 rec => if cl = cl then (match findB n8.2.2 s with
  | some en9 => (rec (updM [.int .i64 (scI en9.1)] true o.2 o.1, if (findM [.int .i64 (scI en9.1)] o.1).isSome = true then o.2 else o.2 + 1))
  | none => none) else none)
    (fun n o seen => rfl)
    (fun W o => ∃ Y, SetIs D o.1 o.2 Y ∧ ∀ x, x ∈ Y ↔ AtV D W x) ?_ ?_ N [] (([] : SetL), 0) ⟨[], SetIs.nil _ _, fun x => ⟨fun h => by simp at h, fun h => absurd h atV_nil⟩⟩ (by simp) List.nodup_nil ?_
  · rintro seen W ⟨a, b⟩ e rec ⟨Y, h1, h2⟩ hW hWn he hne hrec
    rw [if_pos rfl, findB_mem ht.st he]
    obtain ⟨i, x, h8, h9, h10⟩ := ht.ent he
    simp only [] at h1 ⊢
    rw [h8, scI_kI]
    refine hrec _ ⟨ins Y x, h1.put h.nd h9, fun y => ?_⟩
    rw [mem_ins, h2, atV_cons h8 h9]
    exact Or.comm
  · rintro W ⟨a, b⟩ h1 h2 hWn ⟨Y, h3, h4⟩
    exact hk a b Y h3 fun x => by rw [h4, atV_all ht h1 h2]
  · refine Nat.lt_of_le_of_lt (unseen_le _ _) ?_
    have := ht.le h.nd
    have := ht.len
    have := h.bnd
    omega
theorem cutB (hN : maxRow < N) {D : List MR} {s : BS} {X Y : List MR} {o : Option St2} (h : OkB D s X Y) (hs : Sim s X Y o) (hm : s.many = false) {k0 : Bool → SetL → Nat → Option Unit}
    (hk : ∀ f' fcl' Y', SetIs D f' fcl' Y' → (∀ x ∈ Y, x ∈ Y') → Sim { s with many := !small Y', f := f', fcl := fcl' } X Y' (o.bind cutS) → k0 (!small Y') f' fcl' = some ()) :
    effect_rows_cut N V P Tm Nd s.many s.l s.long s.kn s.kcl s.both s.t s.tcl s.f s.fcl k0 = some () := by
  unfold effect_rows_cut
  refine copied_ok hN h.gd h.sf fun c ccl Yc hc1 hc2 => ?_
  obtain ⟨s1, s2⟩ := h.sm hm
  have e0 : s.many = (false || !small Y) := by rw [hm, s2]; rfl
  rw [e0]
  refine l2_ok hN h.gd h.st h.sf fun f1 fcl1 Y1 g1 g2 => ?_
  refine l1002_ok hN h.gd hc1 g1 fun f2 fcl2 Y2 g3 g4 => ?_
  rw [Bool.false_or]
  refine hk f2 fcl2 Y2 g3 (fun x hx => (g4 x).2 (.inl ((g2 x).2 (.inl hx)))) ?_
  obtain ⟨T, F, rfl, a1, a2, a3, a4⟩ := hs.some_of hm
  have al : Alike Y2 (un F ((T ++ F).flatMap pfx)) := fun y => by
    rw [g4, g2, mem_un, a2 y, List.mem_flatMap]
    constructor
    · rintro ((hy | ⟨x, hx, hy⟩) | ⟨x, hx, hy⟩)
      · exact .inl hy
      · exact .inr ⟨x, List.mem_append_left _ ((a1 x).1 hx), mem_pfx.2 hy⟩
      · exact .inr ⟨x, List.mem_append_right _ ((a2 x).1 ((hc2 x).1 hx)), mem_pfx.2 hy⟩
    · rintro (hy | ⟨x, hx, hy⟩)
      · exact .inl (.inl hy)
      · rcases List.mem_append.1 hx with hx | hx
        · exact .inl (.inr ⟨x, (a1 x).2 hx, mem_pfx.1 hy⟩)
        · exact .inr ⟨x, (hc2 x).2 ((a2 x).2 hx), mem_pfx.1 hy⟩
  have hn : (un F ((T ++ F).flatMap pfx)).Nodup := nodup_un a4
  have hsm := al.small (g3.nodup h.gd.nd) hn
  simp only [Option.bind_some, cutS]
  cases hq : small (un F ((T ++ F).flatMap pfx)) with
  | true =>
    rw [if_pos rfl]
    exact ⟨by show (!small Y2) = false; rw [hsm, hq]; rfl, a1, al, a3, hn⟩
  | false =>
    rw [if_neg (by simp)]
    show (!small Y2) = true
    rw [hsm, hq]; rfl
end
theorem equal_l0 {R : Type} {N : Nat} {a b : MR} (hab : a.length = b.length) (ha : a.length < 2 ^ 40) {k : Bool → Option R} : ∀ (n i : Nat), i ≤ a.length → a.length - i < n →
    slices_Equal_Mark_l0 N a b ((a.length : Nat) : Int) (k true) (fun (y7 : Bool) => k y7) n (i : Int) = k (decide (a.drop i = b.drop i))
  | 0, _, _, h => by omega
  | n + 1, i, h1, h2 => by
    show slices_Equal_Mark_l0_b N a b ((a.length : Nat) : Int) (k true) (fun (y7 : Bool) => k y7) (slices_Equal_Mark_l0 N a b ((a.length : Nat) : Int) (k true) (fun (y7 : Bool) => k y7) n) (i : Int) = _
    unfold slices_Equal_Mark_l0_b
    by_cases hlt : i < a.length
    · rw [if_pos (by simpa using hlt), at_nat, at_nat]
      obtain ⟨x, hx, hd⟩ := drop_cons hlt
      obtain ⟨y, hy, hd2⟩ := drop_cons (l := b) (i := i) (by omega)
      rw [hx, hy]
      simp only [Option.bind_some, Bool.and_true]
      by_cases e : x = y
      · subst e
        rw [if_neg (by simp)]
        rw [wr _ (by omega) (by omega), show ((i : Int) + 1) = ((i + 1 : Nat) : Int) by omega]
        rw [equal_l0 hab ha n (i + 1) (by omega) (by omega)]
        congr 1
        apply decide_eq_decide.2
        rw [hd, hd2]
        simp
      · have : (!((x.Port == y.Port) && (x.Event == y.Event))) = true := by
          rw [Bool.not_eq_true', ← Bool.not_eq_true]
          intro h
          exact e (eqM_iff.1 h)
        rw [if_pos this]
        congr 1
        symm
        rw [decide_eq_false_iff_not, hd, hd2]
        simp [e]
    · rw [if_neg (by simpa using hlt)]
      congr 1
      symm
      rw [decide_eq_true_eq, List.drop_eq_nil_of_le (by omega), List.drop_eq_nil_of_le (by omega)]
theorem equal_eq {R : Type} {N : Nat} (hN : maxRow < N) {a b : MR} (ha : a.length ≤ maxRow) {k : Bool → Option R} : slices_Equal_Mark N a b k = k (decide (a = b)) := by
  unfold slices_Equal_Mark
  by_cases h : a.length = b.length
  · rw [if_neg (by simp [h])]
    simp only [maxRow] at ha hN
    rw [show (0 : Int) = ((0 : Nat) : Int) from rfl, equal_l0 h (by omega) N 0 (by omega) (by omega)]
    rfl
  · rw [if_pos (by simp; omega)]
    congr 1
    symm
    rw [decide_eq_false_iff_not]
    intro e
    exact h (by rw [e])

/-! ### neighbours that are alike -/
def ddS (acc : List MR) (x : MR) : List MR := if acc.getLast? = some x then acc else acc ++ [x]
def dd (l : List MR) : List MR := l.foldl ddS []
theorem dd_snoc (l : List MR) (x : MR) : dd (l ++ [x]) = ddS (dd l) x := by simp [dd, List.foldl_append]
theorem dd_last : ∀ (l : List MR), (dd l).getLast? = l.getLast? := by
  intro l
  rcases List.eq_nil_or_concat l with rfl | ⟨l', x, h⟩
  · rfl
  · rw [h, List.concat_eq_append, dd_snoc]
    unfold ddS
    split
    · rename_i e; rw [e]; simp
    · simp
theorem dd_mem : ∀ (l : List MR) (x : MR), x ∈ dd l ↔ x ∈ l := by
  have key : ∀ (n : Nat) (l : List MR), l.length = n → ∀ x, x ∈ dd l ↔ x ∈ l := by
    intro n
    induction n with
    | zero => intro l hl x; have := List.length_eq_zero_iff.1 hl; subst this; rfl
    | succ n ih =>
      intro l hl x
      rcases List.eq_nil_or_concat l with rfl | ⟨l', y, h⟩
      · simp at hl
      · rw [h, List.concat_eq_append] at hl ⊢
        simp at hl
        rw [dd_snoc]
        unfold ddS
        have hi := ih l' hl
        split
        · rename_i e
          rw [hi, List.mem_append]
          constructor
          · exact .inl
          · rintro (h | h)
            · exact h
            · simp at h; subst h
              exact (hi x).1 (List.mem_of_getLast? e)
        · rw [List.mem_append, List.mem_append, hi]
  exact fun l => key l.length l rfl
theorem dd_sorted : ∀ (l : List MR), (l.Pairwise fun x y => lessM y x = false) → (dd l).Pairwise fun x y => lessM x y = true := by
  have key : ∀ (n : Nat) (l : List MR), l.length = n → (l.Pairwise fun x y => lessM y x = false) → (dd l).Pairwise fun x y => lessM x y = true := by
    intro n
    induction n with
    | zero => intro l hl _; have := List.length_eq_zero_iff.1 hl; subst this; exact List.Pairwise.nil
    | succ n ih =>
      intro l hl hp
      rcases List.eq_nil_or_concat l with rfl | ⟨l', y, h⟩
      · simp at hl
      · rw [h, List.concat_eq_append] at hl hp ⊢
        simp at hl
        rw [List.pairwise_append] at hp
        obtain ⟨hp1, _, hp2⟩ := hp
        have hi := ih l' hl hp1
        rw [dd_snoc]
        unfold ddS
        split
        · exact hi
        · rename_i e
          rw [List.pairwise_append]
          refine ⟨hi, List.pairwise_singleton _ _, fun a ha b hb => ?_⟩
          simp at hb; subst hb
          have ha' := (dd_mem l' a).1 ha
          have h1 := hp2 a ha' b (by simp)
          cases h2 : lessM a b with
          | true => rfl
          | false =>
            have heq := lessM_tot a b h2 h1
            subst heq
            exfalso
            apply e
            rw [dd_last]
            -- the last of l' is not behind a, and not ahead of it
            rcases List.eq_nil_or_concat l' with rfl | ⟨l2, z, h3⟩
            · simp at ha'
            · rw [h3, List.concat_eq_append] at ha' hp1 hp2 ⊢
              simp only [List.getLast?_append, List.getLast?_singleton, Option.some_or]
              have h4 := hp2 z (by simp) a (by simp)
              rcases List.mem_append.1 ha' with hh | hh
              · rw [List.pairwise_append] at hp1
                have h5 := hp1.2.2 a hh z (by simp)
                rw [lessM_tot z a h5 h4]
              · simp at hh; rw [hh]
  exact fun l => key l.length l rfl
theorem take_snoc {s : List MR} {i : Nat} {x : MR} (h : s[i]? = some x) : s.take (i + 1) = s.take i ++ [x] := by
  rw [List.take_add_one, h]; rfl
theorem take_last {s : List MR} {i : Nat} {x : MR} (h : s[i]? = some x) : (s.take (i + 1)).getLast? = some x := by rw [take_snoc h]; simp
section
variable {N : Nat} (hN : maxRow < N)
include hN
theorem compact_l2 {s0 : List MR} (hs : s0.length < 2 ^ 37) (hl : ∀ x ∈ s0, x.length ≤ maxRow) {K : Nat} (hK : 1 ≤ K) {kp0 : Int → List MR → Option Unit}
    (hk : ∀ (q : Nat) (s : List MR), s.length = s0.length → q < s0.length → s.take q = dd s0 → kp0 (q : Int) s = some ()) :
    ∀ (n j q : Nat) (s : List MR), 1 ≤ j → K + j ≤ s0.length → s0.length - (K + j) < n → s.length = s0.length → q + 1 ≤ K + j → s.take q = dd (s0.take (K + j)) → (∀ i, q ≤ i → s[i]? = s0[i]?) →
    slices_CompactFunc_Mark_l2 N K (s0.length - K) kp0 n (q : Int) (j : Int) s = some ()
  | 0, _, _, _, _, _, h, _, _, _, _ => by omega
  | n + 1, j, q, s, h1, h2, h3, h4, h5, h6, h7 => by
    show slices_CompactFunc_Mark_l2_b N K (s0.length - K) kp0 (slices_CompactFunc_Mark_l2 N K (s0.length - K) kp0 n) (q : Int) (j : Int) s = some ()
    unfold slices_CompactFunc_Mark_l2_b
    by_cases hlt : j < s0.length - K
    · rw [if_pos (by simp; omega), if_pos ⟨by omega, by omega⟩]
      have hw : IntKind.wrap .i64 ((j : Int) - 1) = ((j - 1 : Nat) : Int) := by rw [wr _ (by omega) (by omega)]; omega
      obtain ⟨x, hx, _⟩ := drop_cons (l := s0) (i := K + j) (by omega)
      obtain ⟨y, hy, _⟩ := drop_cons (l := s0) (i := K + (j - 1)) (by omega)
      rw [Int.toNat_natCast, h7 (K + j) (by omega), hx]
      simp only [hw]
      rw [if_pos ⟨by omega, by omega⟩, Int.toNat_natCast, h7 (K + (j - 1)) (by omega), hy]
      simp only []
      rw [equal_eq hN (hl x (get_mem hx))]
      have hy' : (s0.take (K + j)).getLast? = some y := by
        have := take_last (s := s0) (i := K + (j - 1)) hy
        rwa [show K + (j - 1) + 1 = K + j by omega] at this
      have hsn := take_snoc hx
      have hw2 : IntKind.wrap .i64 ((j : Int) + 1) = ((j + 1 : Nat) : Int) := by rw [wr _ (by omega) (by omega)]; omega
      by_cases e : x = y
      · subst e
        rw [if_neg (by simp), hw2]
        refine compact_l2 hs hl hK hk n (j + 1) q s (by omega) (by omega) (by omega) h4 (by omega) ?_ h7
        rw [h6, show K + (j + 1) = K + j + 1 by omega, hsn, dd_snoc]
        unfold ddS
        rw [dd_last, hy', if_pos rfl]
      · rw [if_pos (by simpa using e), if_pos ⟨by omega, by omega⟩]
        rw [if_pos ⟨by omega, by omega⟩]
        obtain ⟨z, hz, _⟩ := drop_cons (l := s) (i := q) (by omega)
        rw [Int.toNat_natCast, hz]
        simp only []
        have hw3 : IntKind.wrap .i64 ((q : Int) + 1) = ((q + 1 : Nat) : Int) := by rw [wr _ (by omega) (by omega)]; omega
        rw [hw2, hw3]
        refine compact_l2 hs hl hK hk n (j + 1) (q + 1) (s.set q x) (by omega) (by omega) (by omega) (by simp [h4]) (by omega) ?_ (fun i hi => by rw [List.getElem?_set_ne (by omega)]; exact h7 i (by omega))
        have hq : (s.set q x)[q]? = some x := by rw [List.getElem?_set_self (by omega)]
        rw [take_snoc hq, List.take_set_of_le (Nat.le_refl q), h6, show K + (j + 1) = K + j + 1 by omega, hsn, dd_snoc]
        unfold ddS
        rw [dd_last, hy', if_neg (by intro h; cases h; exact e rfl)]
    · rw [if_neg (by simp; omega)]
      have : K + j = s0.length := by omega
      rw [this, List.take_length] at h6
      exact hk q s h4 (by omega) h6
theorem compact_l0 {s : List MR} (hs : s.length ≤ maxRow) (hl : ∀ x ∈ s, x.length ≤ maxRow) {k0 : List MR → Option Unit} (hk : k0 (dd s) = some ()) : ∀ (n i : Nat), 1 ≤ i → i ≤ s.length → s.length - i < n → dd (s.take i) = s.take i →
    slices_CompactFunc_Mark_l0 N s (k0 s) (fun (y18 : Nat) (y19 : Nat) (y20 : List (List Mark)) => k0 ((y20.drop y18).take y19)) n (i : Int) = some ()
  | 0, _, _, _, h, _ => by omega
  | n + 1, i, h0, h1, h2, h3 => by
    have hs' : s.length ≤ 2 ^ 36 := hs
    show slices_CompactFunc_Mark_l0_b N s (k0 s) (fun (y18 : Nat) (y19 : Nat) (y20 : List (List Mark)) => k0 ((y20.drop y18).take y19)) (slices_CompactFunc_Mark_l0 N s (k0 s) (fun (y18 : Nat) (y19 : Nat) (y20 : List (List Mark)) => k0 ((y20.drop y18).take y19)) n) (i : Int) = some ()
    unfold slices_CompactFunc_Mark_l0_b
    by_cases hlt : i < s.length
    · have hw : IntKind.wrap .i64 ((i : Int) - 1) = ((i - 1 : Nat) : Int) := by rw [wr _ (by omega) (by omega)]; omega
      rw [if_pos (by simpa using hlt), if_pos ⟨by omega, by omega⟩]
      obtain ⟨x, hx, _⟩ := drop_cons hlt
      obtain ⟨y, hy, _⟩ := drop_cons (l := s) (i := i - 1) (by omega)
      rw [Int.toNat_natCast, hx]
      simp only [hw]
      rw [if_pos ⟨by omega, by omega⟩, Int.toNat_natCast, hy]
      simp only []
      rw [equal_eq hN (hl x (get_mem hx))]
      have hy' : (s.take i).getLast? = some y := by
        have := take_last (s := s) (i := i - 1) hy
        rwa [show i - 1 + 1 = i by omega] at this
      have hsn := take_snoc hx
      by_cases e : x = y
      · subst e
        rw [if_pos (by simp), if_pos ⟨by omega, by omega, by omega⟩]
        simp only [Int.toNat_natCast]
        have h1' : (1 : Int) = ((1 : Nat) : Int) := rfl
        rw [h1']
        refine compact_l2 hN (s0 := s) (by omega) hl h0 (fun q s2 g1 g2 g3 => ?_) N 1 i s (by omega) (by omega) (by simp only [maxRow] at hN; omega) rfl (by omega) ?_ (fun _ _ => rfl)
        · simp only [Int.toNat_natCast]
          rw [if_pos ⟨by omega, by omega, by omega⟩, if_pos ⟨by omega, by omega⟩]
          have hlen2 : (List.take q s2 ++ List.replicate (s2.length - q) ([] : MR)).length = s2.length := by simp; omega
          rw [if_pos ⟨by omega, by omega, by rw [hlen2]; omega⟩]
          have : ((List.take q s2 ++ List.replicate (s2.length - q) ([] : MR)).drop (Int.toNat 0)).take (q - Int.toNat 0) = dd s := by
            rw [show Int.toNat 0 = 0 from rfl, List.drop_zero, Nat.sub_zero, List.take_append_of_le_length (by simp; omega), List.take_take, Nat.min_self, g3]
          rw [this]
          exact hk
        · rw [hsn, dd_snoc, h3]
          unfold ddS
          rw [hy', if_pos rfl]
      · rw [if_neg (by simpa using e)]
        rw [wr _ (by omega) (by omega), show ((i : Int) + 1) = ((i + 1 : Nat) : Int) by omega]
        refine compact_l0 hs hl hk n (i + 1) (by omega) (by omega) (by omega) ?_
        rw [hsn, dd_snoc, h3]
        unfold ddS
        rw [hy', if_neg (by intro h; cases h; exact e rfl)]
    · rw [if_neg (by simpa using hlt)]
      have : i = s.length := by omega
      rw [this, List.take_length] at h3
      rw [h3] at hk
      exact hk
theorem compact_ok {s : List MR} (hs : s.length ≤ maxRow) (hl : ∀ x ∈ s, x.length ≤ maxRow) {k0 : List MR → Option Unit} (hk : k0 (dd s) = some ()) : slices_CompactFunc_Mark N s (fun r93 r94 => k0 r93) = some () := by
  unfold slices_CompactFunc_Mark
  have hs' : s.length ≤ 2 ^ 36 := hs
  simp only [maxRow] at hN
  by_cases h : s.length < 2
  · rw [if_pos (by simp; omega)]
    have : dd s = s := by
      match s, h with
      | [], _ => rfl
      | [x], _ => rfl
    rw [this] at hk
    exact hk
  · rw [if_neg (by simp; omega)]
    refine compact_l0 (by simpa only [maxRow] using hN) hs hl hk N 1 (by omega) (by omega) (by omega) ?_
    match s, h with
    | x :: r, _ => rfl
    | [], h => simp at h
end
/-- The rows that are found, in any order. -/
theorem atV_new {D : List MR} {W : List EntB} {s : SetL} {cl : Nat} {X : List MR} (h : SetIs D s cl X) (hD : D.Nodup) (hW : ∀ v ∈ W, v ∈ s) {e : EntB} (he : e ∈ s) (hne : e ∉ W) {i : Nat} {x : MR} (h1 : e.1 = kI i) (h2 : D[i]? = some x) : ¬ AtV D W x := by
  rintro ⟨e', he', j, h3, h4⟩
  have : j = i := nd_inj hD h4 h2
  subst this
  obtain ⟨⟨js, g1, g2, g3⟩, _, _⟩ := h
  have hkn : (s.map (·.1)).Nodup := by
    rw [g2]
    exact List.pairwise_map.2 (g1.imp fun hne e => hne (kI_inj e))
  have := nodup_inj (f := fun t : EntB => t.1) hkn (hW e' he') he (by rw [h3, h1])
  exact hne (this ▸ he')
theorem srt_sorted (xs : List MR) : (srt xs).Pairwise fun x y => lessM y x = false := by
  unfold srt
  refine (List.pairwise_mergeSort (le := fun x y => !(Go.Proofs.ltOf cM) y x) (fun a b c h1 h2 => ?_) (fun a b => ?_) xs).imp fun {x y} h => ?_
  · rw [lt_cM, Bool.not_eq_true'] at *
    cases h3 : lessM c a with
    | false => rfl
    | true =>
      exfalso
      cases h4 : lessM a b with
      | true => have := lessM_trans _ _ _ h3 h4; rw [this] at h2; cases h2
      | false =>
        have := lessM_tot a b h4 h1
        subst this
        rw [h3] at h2; cases h2
  · rw [lt_cM, lt_cM, Bool.or_eq_true, Bool.not_eq_true', Bool.not_eq_true']
    cases h : lessM b a with
    | false => exact .inl rfl
    | true =>
      refine .inr ?_
      cases h2 : lessM a b with
      | false => rfl
      | true => have := lessM_trans _ _ _ h h2; rw [lessM_irr] at this; cases this
  · rw [lt_cM, Bool.not_eq_true'] at h
    exact h
theorem gd0 : GD [[]] [(⟨0, (⟨0, []⟩ : Mark)⟩ : Next)] [0] [] where
  len := rfl
  z := rfl
  lng := rfl
  nd := by simp
  nx := by intro i y h1 h2; have := get_lt h2; simp at this; omega
  kno := by
    intro p x m h
    have := get_lt h
    simp at this
    subst this
    simp at h
    subst h
    exact ⟨fun j hj => by have h2 := get_lt hj; simp at h2; subst h2; simp at hj, fun _ => rfl⟩
  kz := fun p m h => rfl
  sm := by intro x hx; simp at hx; subst hx; simp
  bnd := by simp [maxRow]
section
variable {N : Nat} (hN : maxRow < N) {V P Tm : List (List UInt8)} {Nd : List Node}
include hN
theorem ways_l0 {D : List MR} {s : BS} {X Y : List MR} (h : GD D s.l s.long s.kn) (ht : SetIs D s.t s.tcl X) (hx : X.length < maxRow) {kp0 : List MR → Option Unit} (hk : ∀ L : List MR, L.Perm X → kp0 L = some ()) :
    effect_Ways_l0 N V P Tm Nd s.many s.l s.long s.kn s.kcl s.both s.t s.tcl s.f s.fcl s.tcl kp0 N ([] : List (List Mark)) [] s.tcl = some () := by
  refine range_ok (σ := List MR) ht.st ht.lt
    (fun n o seen => effect_Ways_l0 N V P Tm Nd s.many s.l s.long s.kn s.kcl s.both s.t s.tcl s.f s.fcl s.tcl kp0 n o seen s.tcl)
    (fun o => kp0 o)
    (fun seen o n52 rec => if s.tcl = s.tcl then (match findB n52.2.2 s.t with
  | some en53 => (effect_rows_marks N (scI en53.1) V P Tm Nd s.many s.l s.long s.kn s.kcl (fun (r54 : List Mark) =>
  if o.length + [r54].length ≤ maxRow then (rec (o ++ [r54])) else none))
  | none => none) else none)
    (fun n o seen => rfl)
    (fun W o => o.Nodup ∧ (∀ x, x ∈ o ↔ AtV D W x) ∧ o.length = W.length) ?_ ?_ N [] ([] : List MR) ⟨List.nodup_nil, fun x => ⟨fun h => by simp at h, fun h => absurd h atV_nil⟩, rfl⟩ (by simp) List.nodup_nil ?_
  · rintro seen W o e rec ⟨h1, h2, h3⟩ hW hWn he hne hrec
    have hlen := V_lt hW hWn he hne
    rw [ht.len] at hlen
    rw [if_pos rfl, findB_mem ht.st he]
    obtain ⟨i, x, h8, h9, h10⟩ := ht.ent he
    simp only []
    rw [h8, scI_kI, rmarks_eq hN h h9, if_pos (by simp; omega)]
    refine hrec _ ⟨?_, fun y => ?_, by simp [h3]⟩
    · rw [List.nodup_append]
      refine ⟨h1, by simp, fun a ha b hb e' => ?_⟩
      simp at hb; subst hb; subst e'
      exact atV_new ht h.nd hW he hne h8 h9 ((h2 a).1 ha)
    · rw [List.mem_append, h2, atV_cons h8 h9]
      simp only [List.mem_cons, List.not_mem_nil, or_false]
      exact Or.comm
  · rintro W o h1 h2 hWn ⟨h3, h4, h5⟩
    exact hk o ((List.perm_ext_iff_of_nodup h3 (ht.nodup h.nd)).2 fun x => by rw [h4, atV_all ht h1 h2])
  · refine Nat.lt_of_le_of_lt (unseen_le _ _) ?_
    rw [ht.len]; omega
def errM : Mark := ⟨-1, [101, 114, 114, 111, 114]⟩
theorem ways_l2 {D : List MR} {s : BS} {X Y : List MR} (h : GD D s.l s.long s.kn) (ht : SetIs D s.f s.fcl Y) (O : List MR) (hx : O.length + Y.length < maxRow) (hs : ∀ x ∈ Y, x.length < maxRow) {kp0 : List MR → Option Unit} (hk : ∀ L : List MR, L.Perm Y → kp0 (O ++ L.map (· ++ [errM])) = some ()) :
    effect_Ways_l2 N V P Tm Nd s.many s.l s.long s.kn s.kcl s.fcl s.f s.fcl kp0 N O [] s.fcl = some () := by
  refine range_ok (σ := List MR) ht.st ht.lt
    (fun n o seen => effect_Ways_l2 N V P Tm Nd s.many s.l s.long s.kn s.kcl s.fcl s.f s.fcl kp0 n o seen s.fcl)
    (fun o => kp0 o)
    (fun seen o n71 rec => if s.fcl = s.fcl then (match findB n71.2.2 s.f with
  | some en72 => (effect_rows_marks N (scI en72.1) V P Tm Nd s.many s.l s.long s.kn s.kcl (fun (r73 : List Mark) =>
  if r73.length + ([(⟨(-1), [101, 114, 114, 111, 114]⟩ : Mark)]).length ≤ maxRow then (if o.length + ([r73 ++ ([(⟨(-1), [101, 114, 114, 111, 114]⟩ : Mark)])]).length ≤ maxRow then (rec (o ++ ([r73 ++ ([(⟨(-1), [101, 114, 114, 111, 114]⟩ : Mark)])]))) else none) else none))
  | none => none) else none)
    (fun n o seen => rfl)
    (fun W o => ∃ L : List MR, o = O ++ L.map (· ++ [errM]) ∧ L.Nodup ∧ (∀ x, x ∈ L ↔ AtV D W x) ∧ L.length = W.length) ?_ ?_ N [] O ⟨[], by simp, List.nodup_nil, fun x => ⟨fun h => by simp at h, fun h => absurd h atV_nil⟩, rfl⟩ (by simp) List.nodup_nil ?_
  · rintro seen W o e rec ⟨L, rfl, h1, h2, h3⟩ hW hWn he hne hrec
    have hlen := V_lt hW hWn he hne
    rw [ht.len] at hlen
    rw [if_pos rfl, findB_mem ht.st he]
    obtain ⟨i, x, h8, h9, h10⟩ := ht.ent he
    simp only []
    have hxl := hs x h10
    rw [h8, scI_kI, rmarks_eq hN h h9, if_pos (by simp; omega), if_pos (by simp; omega)]
    refine hrec _ ⟨L ++ [x], by simp [errM], ?_, fun y => ?_, by simp [h3]⟩
    · rw [List.nodup_append]
      refine ⟨h1, by simp, fun a ha b hb e' => ?_⟩
      simp at hb; subst hb; subst e'
      exact atV_new ht h.nd hW he hne h8 h9 ((h2 a).1 ha)
    · rw [List.mem_append, h2, atV_cons h8 h9]
      simp only [List.mem_cons, List.not_mem_nil, or_false]
      exact Or.comm
  · rintro W o h1 h2 hWn ⟨L, rfl, h3, h4, h5⟩
    exact hk L ((List.perm_ext_iff_of_nodup h3 (ht.nodup h.nd)).2 fun x => by rw [h4, atV_all ht h1 h2])
  · refine Nat.lt_of_le_of_lt (unseen_le _ _) ?_
    rw [ht.len]; omega
/-- Rows in order, each once. -/
def SS (L : List MR) : Prop := L.Pairwise fun x y => lessM x y = true
/-- What Ways answers. -/
theorem ways2 {fl : List Expr → Bool} (hP : P.length < maxRow) {l : List Act} {d e : Nat} (hNe : N = e + 1) (hde : 3 * d ≤ e) (hd : dep N fl d l) (hb : 1 + cst d l ≤ maxRow) {fuel : Int} {c : Bool}
    (hM : code_Block N l V P Tm Nd (fun (r11 : List Ins) => code_Most N r11 (fun (r12 : Int) => some (decide (r12 > fuel)))) = some c) {k0 : List MR → Int → Option Unit}
    (h0 : (sp fl P d l initS).bind (if c = true then cutS else some) = none → k0 [] 15 = some ())
    (h1 : ∀ T F L, (sp fl P d l initS).bind (if c = true then cutS else some) = some (T, F) → SS L → (∀ x, x ∈ L ↔ x ∈ T ∨ ∃ y ∈ F, x = y ++ [errM]) → (∀ x ∈ L, x.length ≤ 65) → L.length ≤ 128 → k0 L 0 = some ()) :
    effect_Ways N l V P Tm Nd fuel k0 = some () := by
  unfold effect_Ways effect_rows_inner
  subst hNe
  have c5 : ∀ (D : List MR) (s : BS) (X Y : List MR), OkB D s X Y → Sim s X Y ((sp fl P d l initS).bind (if c = true then cutS else some)) →
      effect_Ways_c5 (e + 1) V P Tm Nd s.many s.l s.long s.kn s.kcl s.both s.t s.tcl s.f s.fcl (fun (y95 : Int) => k0 ([] : List (List Mark)) y95) (fun (y96 : List (List Mark)) (y97 : Int) => k0 y96 y97) = some () := by
    intro D s X Y k m'
    have hbd := k.gd.bnd
    unfold effect_Ways_c5
    cases hm : s.many with
    | true => rw [if_pos rfl]; exact h0 (m'.none_iff hm)
    | false =>
      rw [if_neg (by simp)]
      obtain ⟨T, F, ho, a1, a2, a3, a4⟩ := m'.some_of hm
      obtain ⟨s1, s2⟩ := k.sm hm
      simp only [small, Bool.and_eq_true, decide_eq_true_eq, List.all_eq_true] at s1 s2
      rw [← hm]
      refine ways_l0 hN (s := s) (Y := Y) k.gd k.st (by simp only [maxRow]; omega) fun L hL => ?_
      have hLl := hL.length_eq
      refine ways_l2 hN (s := s) (X := X) k.gd k.sf L (by simp only [maxRow]; omega) (fun x hx => by have := s2.2 x hx; simp only [maxRow]; omega) fun L2 hL2 => ?_
      have hL2l := hL2.length_eq
      have sh : ∀ x ∈ L ++ L2.map (· ++ [errM]), x.length ≤ 65 := by
        intro x hx
        rcases List.mem_append.1 hx with hx | hx
        · have := s1.2 x (hL.mem_iff.1 hx); omega
        · obtain ⟨y, hy, rfl⟩ := List.mem_map.1 hx
          have := s2.2 y (hL2.mem_iff.1 hy); simp; omega
      unfold slices_SortFunc_Mark
      rw [if_pos ⟨by simp; omega, by
        rw [List.all_eq_true]
        intro x hx
        have := sh x hx
        exact decide_eq_true (by unfold big; omega)⟩]
      have pS : (srt (L ++ L2.map (· ++ [errM]))).Perm (L ++ L2.map (· ++ [errM])) := List.mergeSort_perm _ _
      refine compact_ok hN (k0 := fun r => k0 r 0) (by rw [pS.length_eq]; simp; simp only [maxRow]; omega) (fun x hx => by have := sh x (pS.mem_iff.1 hx); simp only [maxRow]; omega) ?_
      have hss := dd_sorted _ (srt_sorted (L ++ L2.map (· ++ [errM])))
      refine h1 T F _ ho hss (fun x => ?_) (fun x hx => sh x (pS.mem_iff.1 ((dd_mem _ x).1 hx))) ?_
      · rw [dd_mem, pS.mem_iff, List.mem_append, hL.mem_iff, a1 x, List.mem_map]
        constructor
        · rintro (h | ⟨y, hy, rfl⟩)
          · exact .inl h
          · exact .inr ⟨y, (a2 y).1 (hL2.mem_iff.1 hy), rfl⟩
        · rintro (h | ⟨y, hy, rfl⟩)
          · exact .inl h
          · exact .inr ⟨y, hL2.mem_iff.2 ((a2 y).2 hy), rfl⟩
      · have hnd : (dd (srt (L ++ L2.map (· ++ [errM])))).Nodup := hss.imp fun {a b} hab e => by subst e; rw [lessM_irr] at hab; cases hab
        have := nodup_sub_len hnd (Y := L ++ L2.map (· ++ [errM])) fun x hx => pS.mem_iff.1 ((dd_mem _ x).1 hx)
        simp at this
        omega
  refine inner_ok (acts_ok hN hP d e hde) hd gd0 false (by simpa using hb) fun D s X Y p q k m => ?_
  have m' : Sim s X Y (sp fl P d l initS) := m
  rw [hM]
  cases hm : s.many with
  | true =>
    rw [show ifB (!true) true (some c) (some false) = some false from rfl, Option.bind_some, if_neg (by simp), ← hm]
    refine c5 D s X Y k ?_
    rw [m'.none_iff hm]
    exact hm
  | false =>
    rw [show ifB (!false) true (some c) (some false) = some c from rfl, Option.bind_some]
    cases c with
    | false =>
      rw [if_neg (by simp), ← hm]
      refine c5 D s X Y k ?_
      rw [if_neg (by simp)]
      cases ho : sp fl P d l initS with
      | none => rw [ho] at m'; exact m'
      | some st => rw [ho] at m'; exact m'
    | true =>
      rw [if_pos rfl, ← hm]
      refine cutB (N := e + 1 + 3) (by omega) k m' hm fun f' fcl' Y' g1 gs g2 => ?_
      rw [if_pos rfl] at c5
      refine c5 D { s with many := !small Y', f := f', fcl := fcl' } X Y' ⟨k.gd, k.st, g1, fun e' => ⟨(k.sm hm).1, by simpa using e'⟩, k.le, fun hb x hx => gs x (k.bo hb x hx)⟩ g2
end
end Ef
