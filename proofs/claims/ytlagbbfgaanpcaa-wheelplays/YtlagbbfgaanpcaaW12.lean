/- W12: a part of the proof of WheelPlays: lemmas on the evaluator and on the functions that the law reaches. -/
import Derived.Test.YtlagbbfgaanpcaaW11
import Derived.Test.YtlagbbfgaanpcaaW9
set_option maxRecDepth 100000
set_option linter.unusedVariables false
namespace Wh
open Go TE Go.Proofs
instance : DecidableEq Fired := fun x y => if h : x.inst = y.inst ∧ x.timer = y.timer then isTrue (fired_ext h.1 h.2) else isFalse fun e => h ⟨by rw [e], by rw [e]⟩
theorem nodup_of_map {α β : Type} {f : α → β} {l : List α} (h : (l.map f).Nodup) : l.Nodup := (List.pairwise_map.1 h).imp fun h e => h (congrArg f e)
/-- What a wheel's map holds. -/
abbrev Cont := List (Fired × Int)
def V (L : ML) : Cont := L.map fun t => (firedOf t, t.2.1)
structure WF (L : ML) : Prop where
  keys : (L.map (·.1)).Nodup
  sh : ∀ t ∈ L, shaped KS t.1 = true
theorem WF.nil : WF [] := ⟨by simp, by simp⟩
theorem keyOf_sh (f : Fired) : shaped KS (keyOf f) = true := rfl
theorem firedOf_keyOf (f : Fired) (n : Int) (s : Nat) : firedOf (keyOf f, n, s) = f := rfl
theorem key_iff {t : Ent} (h : shaped KS t.1 = true) (f : Fired) : t.1 = keyOf f ↔ firedOf t = f := by
  constructor
  · intro e
    unfold firedOf
    rw [e]; rfl
  · intro e
    rw [← e, keyOf_firedOf h]
theorem WF.filter {L : ML} (h : WF L) (p : Ent → Bool) : WF (L.filter p) := ⟨map_nodup_filter h.keys, fun t ht => h.sh t (List.mem_filter.1 ht).1⟩
theorem V_len (L : ML) : (V L).length = L.length := by unfold V; simp
theorem V_filter (p : Ent → Bool) (q : Fired × Int → Bool) (L : ML) (h : ∀ t ∈ L, p t = q (firedOf t, t.2.1)) : V (L.filter p) = (V L).filter q := by
  unfold V
  rw [List.filter_map]
  congr 1
  exact List.filter_congr h
theorem V_del {L : ML} (h : WF L) (f : Fired) : V (delM (keyOf f) L) = (V L).filter (fun p => decide (p.1 ≠ f)) ∧ WF (delM (keyOf f) L) := by
  rw [delM_filter h.keys]
  refine ⟨V_filter _ _ L fun t ht => ?_, h.filter _⟩
  have := key_iff (h.sh t ht) f
  by_cases e : t.1 = keyOf f
  · simp [e, this.1 e]
  · have e2 : firedOf t ≠ f := fun x => e (this.2 x)
    simp [e, e2]
theorem mem_keys {L : ML} (h : WF L) (f : Fired) : keyOf f ∈ L.map (·.1) ↔ ∃ n, (f, n) ∈ V L := by
  constructor
  · intro hk
    obtain ⟨t, ht, e⟩ := List.mem_map.1 hk
    exact ⟨t.2.1, List.mem_map.2 ⟨t, ht, by rw [(key_iff (h.sh t ht) f).1 e]⟩⟩
  · rintro ⟨n, hn⟩
    obtain ⟨t, ht, e⟩ := List.mem_map.1 hn
    cases e
    exact List.mem_map.2 ⟨t, ht, (keyOf_firedOf (h.sh t ht)).symm⟩
theorem V_keys {L : ML} (h : WF L) : ((V L).map (·.1)).Nodup := by
  have : (L.map (·.1)) = ((V L).map (·.1)).map keyOf := by
    unfold V
    rw [List.map_map, List.map_map]
    exact List.map_congr_left fun t ht => (keyOf_firedOf (h.sh t ht)).symm
  have h2 := h.keys
  rw [this] at h2
  exact nodup_of_map h2
theorem V_upd {L : ML} (h : WF L) (f : Fired) (n : Int) (cl : Nat) : (V (updM (keyOf f) n cl L)).Perm ((V L).filter (fun p => decide (p.1 ≠ f)) ++ [(f, n)]) ∧ WF (updM (keyOf f) n cl L) := by
  by_cases hk : keyOf f ∈ L.map (·.1)
  · rw [updM_map h.keys hk]
    constructor
    · obtain ⟨t, ht, e⟩ := List.mem_map.1 hk
      -- the list is cut at the entry
      obtain ⟨A, B, rfl⟩ := List.append_of_mem ht
      have hA : ∀ x ∈ A, x.1 ≠ keyOf f := by
        intro x hx hxe
        have hn := h.keys
        rw [List.map_append, List.map_cons, List.nodup_append] at hn
        exact hn.2.2 x.1 (List.mem_map.2 ⟨x, hx, rfl⟩) t.1 (by simp) (by rw [hxe, e])
      have hB : ∀ x ∈ B, x.1 ≠ keyOf f := by
        intro x hx hxe
        have hn := h.keys
        rw [List.map_append, List.map_cons, List.nodup_append, List.nodup_cons] at hn
        exact hn.2.1.1 (by rw [e, ← hxe]; exact List.mem_map.2 ⟨x, hx, rfl⟩)
      have mA : A.map (fun x => if x.1 = keyOf f then (keyOf f, n, x.2.2) else x) = A := (List.map_congr_left fun x hx => by rw [if_neg (hA x hx)]; rfl).trans (List.map_id _)
      have mB : B.map (fun x => if x.1 = keyOf f then (keyOf f, n, x.2.2) else x) = B := (List.map_congr_left fun x hx => by rw [if_neg (hB x hx)]; rfl).trans (List.map_id _)
      rw [List.map_append, List.map_cons, mA, mB, if_pos e]
      have fA : ∀ X : ML, (∀ x ∈ X, x ∈ A ++ t :: B) → (∀ x ∈ X, x.1 ≠ keyOf f) → (V X).filter (fun p => decide (p.1 ≠ f)) = V X := by
        intro X hX hne
        refine List.filter_eq_self.2 fun p hp => ?_
        obtain ⟨x, hx, rfl⟩ := List.mem_map.1 hp
        have := hne x hx
        rw [Ne, key_iff (h.sh x (hX x hx))] at this
        simpa using this
      have eV : V (A ++ t :: B) = V A ++ (firedOf t, t.2.1) :: V B := by unfold V; rw [List.map_append, List.map_cons]
      have eV2 : V (A ++ (keyOf f, n, t.2.2) :: B) = V A ++ (f, n) :: V B := by unfold V; rw [List.map_append, List.map_cons, firedOf_keyOf]
      have ft : firedOf t = f := (key_iff (h.sh t ht) f).1 e
      rw [eV, eV2, List.filter_append, List.filter_cons_of_neg (by simp [ft]), fA A (fun x hx => by simp [hx]) hA, fA B (fun x hx => by simp [hx]) hB, List.append_assoc]
      exact (List.perm_append_comm (l₁ := [(f, n)]) (l₂ := V B)).append_left (V A)
    · refine ⟨?_, fun t ht => ?_⟩
      · rw [List.map_map]
        have : ((fun x : Ent => x.1) ∘ fun x : Ent => if x.1 = keyOf f then (keyOf f, n, x.2.2) else x) = fun x : Ent => x.1 := by
          funext x
          show (if x.1 = keyOf f then (keyOf f, n, x.2.2) else x).1 = x.1
          split
          · rename_i e; exact e.symm
          · rfl
        rw [this]; exact h.keys
      · obtain ⟨x, hx, rfl⟩ := List.mem_map.1 ht
        split
        · exact keyOf_sh f
        · exact h.sh x hx
  · rw [updM_app hk]
    constructor
    · have e1 : V (L ++ [(keyOf f, n, cl)]) = V L ++ [(f, n)] := by unfold V; rw [List.map_append]; rfl
      rw [e1, List.filter_eq_self.2 fun p hp => ?_]
      have : p.1 ≠ f := by
        intro e
        refine hk ((mem_keys h f).2 ⟨p.2, ?_⟩)
        rw [← e]; exact hp
      simpa using this
    · refine ⟨?_, fun t ht => ?_⟩
      · rw [List.map_append, List.nodup_append]
        exact ⟨h.keys, by simp, fun a ha b hb => by simp at hb; subst hb; exact fun e => hk (e ▸ ha)⟩
      · rcases List.mem_append.1 ht with ht | ht
        · exact h.sh t ht
        · simp at ht; subst ht; exact keyOf_sh f
/-- What is left of a timer. -/
def lk (f : Fired) (c : Cont) : Option Int := (c.find? fun p => decide (p.1 = f)).map (·.2)
theorem lk_find {L : ML} (h : WF L) (f : Fired) : findM (keyOf f) L = lk f (V L) := by
  obtain ⟨h1, h2⟩ := h
  induction L with
  | nil => rfl
  | cons x r ih =>
    simp only [List.map_cons, List.nodup_cons] at h1
    have := key_iff (h2 x (by simp)) f
    unfold V lk
    simp only [findM, List.map_cons, List.find?_cons]
    by_cases e : x.1 = keyOf f
    · simp [e, this.1 e]
    · have e2 : firedOf x ≠ f := fun y => e (this.2 y)
      simp only [e, if_false, e2, decide_false]
      exact ih h1.2 fun t ht => h2 t (List.mem_cons_of_mem _ ht)
theorem lk_mem {c : Cont} (hn : (c.map (·.1)).Nodup) {f : Fired} {n : Int} : lk f c = some n ↔ (f, n) ∈ c := by
  induction c with
  | nil => simp [lk]
  | cons x r ih =>
    simp only [List.map_cons, List.nodup_cons] at hn
    unfold lk
    rw [List.find?_cons]
    by_cases e : x.1 = f
    · simp only [e, decide_true, Option.map_some, Option.some.injEq, List.mem_cons]
      constructor
      · intro h; left; rw [← h, ← e]
      · rintro (h | h)
        · rw [← h]
        · exact absurd (List.mem_map.2 ⟨_, h, rfl⟩) (by rw [e] at hn; exact hn.1)
    · simp only [e, decide_false, List.mem_cons]
      have := ih hn.2
      unfold lk at this
      rw [this]
      constructor
      · exact .inr
      · rintro (h | h)
        · exact absurd (by rw [← h]) e
        · exact h
theorem lk_perm {c d : Cont} (hn : (c.map (·.1)).Nodup) (h : c.Perm d) (f : Fired) : lk f c = lk f d := by
  have hd : (d.map (·.1)).Nodup := (h.map _).nodup_iff.1 hn
  cases e : lk f c with
  | some n => rw [eq_comm, lk_mem hd]; exact h.subset ((lk_mem hn).1 e)
  | none =>
    cases e2 : lk f d with
    | none => rfl
    | some n =>
      have := (lk_mem hn).2 (h.symm.subset ((lk_mem hd).1 e2))
      rw [e] at this; cases this
theorem V_clr {L : ML} (h : WF L) (i : Int) : V (clr i L) = (V L).filter (fun p => !(p.1.inst == i)) ∧ WF (clr i L) :=
  ⟨V_filter _ _ L fun t ht => rfl, h.filter _⟩
def ckC (c : Cont) : Cont := (c.filter fun p => !(p.2 == 1)).map fun p => (p.1, dec1 p.2)
theorem V_tick {L : ML} (h : WF L) : V (tickL L) = ckC (V L) ∧ tickF L = srt (((V L).filter fun p => p.2 == 1).map (·.1)) ∧ WF (tickL L) := by
  refine ⟨?_, ?_, ?_, ?_⟩
  · unfold tickL ckC V
    rw [List.filter_map, List.map_map, List.map_map]
    have e : ((fun p : Fired × Int => !(p.2 == 1)) ∘ fun t : Ent => (firedOf t, t.2.1)) = fun t : Ent => !(t.2.1 == 1) := rfl
    rw [e]
    refine List.map_congr_left fun t ht => ?_
    have h1 := (List.mem_filter.1 ht).2
    show (firedOf (tk t), (tk t).2.1) = (firedOf t, dec1 t.2.1)
    have : (t.2.1 == 1) = false := by simpa using h1
    unfold tk firedOf
    rw [if_neg (by simpa using this)]
  · unfold tickF V
    rw [List.filter_map, List.map_map]; rfl
  · unfold tickL
    rw [List.map_map]
    have : ((fun x : Ent => x.1) ∘ tk) = fun x : Ent => x.1 := rfl
    rw [this]
    exact map_nodup_filter h.keys
  · intro t ht
    obtain ⟨x, hx, rfl⟩ := List.mem_map.1 ht
    exact h.sh x (List.mem_filter.1 hx).1
theorem ckC_perm {c d : Cont} (h : c.Perm d) : (ckC c).Perm (ckC d) := (h.filter _).map _
theorem ckC_len (c : Cont) : (ckC c).length ≤ c.length := by
  unfold ckC; rw [List.length_map]; exact List.length_filter_le _ _
theorem tickL_len (L : ML) : (tickL L).length ≤ L.length := by
  unfold tickL; rw [List.length_map]; exact List.length_filter_le _ _
end Wh
