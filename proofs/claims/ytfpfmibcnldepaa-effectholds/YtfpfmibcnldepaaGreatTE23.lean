/- TE: pure facts on maps and on ranges over them. -/
import Derived.Test.YtfpfmibcnldepaaGreatTE22
namespace TE
open Go
variable {S : Sig} {E : Env S}

open Classical in
noncomputable def okIf (P : Prop) : Option Unit := if P then some () else none
theorem okIf_iff {P : Prop} : okIf P = some () ↔ P := by
  unfold okIf
  split <;> simp_all
abbrev MapL (α : Type) := List (List Sc × α × Nat)
section
variable {α : Type}
theorem allK_intro {β : Type} {k : β → Option Unit} : ∀ {x : β} {l : List β}, (∀ y ∈ x :: l, k y = some ()) → allK k x l = some ()
  | x, [], h => h x (by simp)
  | x, z :: l, h => by
    simp only [allK]
    rw [h x (by simp), allK_intro fun y hy => h y (List.mem_cons_of_mem _ hy)]
theorem nextC_intro {since stepped : Nat} {seen : List Nat} {L : MapL α} {fin : Option Unit} {k : List Sc × α × Nat → Option Unit} (hs : ∀ e ∈ L, e.2.2 < since) (hst : ∀ e ∈ L, e.2.2 < stepped)
    (hfin : (∀ e ∈ L, e.2.2 ∈ seen) → fin = some ()) (hk : ∀ e ∈ L, e.2.2 ∉ seen → k e = some ()) : nextC since seen stepped L fin k = some () := by
  unfold nextC
  rw [if_pos]
  · cases hl : L.filter fun e => !seen.contains e.2.2 with
    | nil =>
      refine hfin fun e he => ?_
      rw [List.filter_eq_nil_iff] at hl
      simpa using hl e he
    | cons x r =>
      refine allK_intro fun y hy => ?_
      rw [← hl] at hy
      rw [List.mem_filter] at hy
      exact hk y hy.1 (by simpa using hy.2)
  · simp only [Bool.and_eq_true, Bool.or_eq_true, List.all_eq_true, List.any_eq_true, decide_eq_true_eq]
    refine ⟨?_, hs⟩
    cases L with
    | nil => simp
    | cons x r => exact .inr (.inr ⟨x, by simp, hst x (by simp)⟩)

theorem nodup_inj {β γ : Type} {f : β → γ} : ∀ {L : List β}, (L.map f).Nodup → ∀ {x y : β}, x ∈ L → y ∈ L → f x = f y → x = y
  | [], _, x, y, hx, _, _ => by simp at hx
  | a :: r, h, x, y, hx, hy, e => by
    simp only [List.map_cons, List.nodup_cons] at h
    rcases List.mem_cons.1 hx with e1 | h1
    · rcases List.mem_cons.1 hy with e2 | h2
      · rw [e1, e2]
      · exact absurd (List.mem_map.2 ⟨y, h2, by rw [← e, e1]⟩) h.1
    · rcases List.mem_cons.1 hy with e2 | h2
      · exact absurd (List.mem_map.2 ⟨x, h1, by rw [e, e2]⟩) h.1
      · exact nodup_inj h.2 h1 h2 e
theorem findB_mem {L : MapL α} (hn : (L.map (·.2.2)).Nodup) {e : List Sc × α × Nat} (he : e ∈ L) : findB e.2.2 L = some e := by
  induction L with
  | nil => simp at he
  | cons x r ih =>
    simp only [List.map_cons, List.nodup_cons] at hn
    simp only [findB]
    rcases List.mem_cons.1 he with rfl | he
    · rw [if_pos rfl]
    · have : x.2.2 ≠ e.2.2 := fun h => hn.1 (by rw [h]; exact List.mem_map.2 ⟨e, he, rfl⟩)
      rw [if_neg this]; exact ih hn.2 he
theorem updM_map {L : MapL α} (hn : (L.map (·.1)).Nodup) {q : List Sc} (hq : q ∈ L.map (·.1)) (y : α) (cl : Nat) : updM q y cl L = L.map fun t => if t.1 = q then (q, y, t.2.2) else t := by
  induction L with
  | nil => simp at hq
  | cons x r ih =>
    simp only [List.map_cons, List.nodup_cons, List.mem_cons] at hn hq
    simp only [updM, List.map_cons]
    by_cases h : x.1 = q
    · rw [if_pos h, if_pos h]
      congr 1
      symm
      refine (List.map_congr_left fun t ht => ?_).trans (List.map_id _)
      rw [if_neg fun e => hn.1 (by rw [h, ← e]; exact List.mem_map.2 ⟨t, ht, rfl⟩)]
      rfl
    · rw [if_neg h, if_neg h, ih hn.2 (by rcases hq with e | e; exact absurd e.symm h; exact e)]
theorem updM_app {L : MapL α} {q : List Sc} (hq : q ∉ L.map (·.1)) (y : α) (cl : Nat) : updM q y cl L = L ++ [(q, y, cl)] := by
  induction L with
  | nil => rfl
  | cons x r ih =>
    simp only [List.map_cons, List.mem_cons, not_or] at hq
    simp only [updM, List.cons_append]
    rw [if_neg (Ne.symm hq.1), ih hq.2]
theorem findM_some {L : MapL α} {q : List Sc} : (findM q L).isSome = true ↔ q ∈ L.map (·.1) := by
  induction L with
  | nil => simp [findM]
  | cons x r ih =>
    simp only [findM, List.map_cons, List.mem_cons]
    by_cases h : x.1 = q
    · rw [if_pos h]; simp [h]
    · rw [if_neg h, ih]
      constructor
      · exact .inr
      · rintro (e | e)
        · exact absurd e.symm h
        · exact e
theorem key2 {k : List Sc} (h : shaped [.int .i64, .int .i64] k = true) : [Sc.int .i64 (scI k), Sc.int .i64 (scI k.tail)] = k := by
  simp only [shaped, decide_eq_true_eq] at h
  match k with
  | [] => simp at h
  | [_] => simp at h
  | [x, y] =>
    simp only [List.map_cons, List.map_nil, List.cons.injEq, and_true] at h
    cases x <;> simp only [Sc.kind, reduceCtorEq, false_and, ScK.int.injEq] at h
    cases y <;> simp only [reduceCtorEq, and_false, ScK.int.injEq] at h
    obtain ⟨rfl, rfl⟩ := h
    rfl
  | _ :: _ :: _ :: _ => simp at h
/-- Of a map what is left to be met. -/
def unseen (seen : List Nat) (L : MapL α) : Nat := (L.filter fun t => !seen.contains t.2.2).length
theorem unseen_lt {seen : List Nat} {L : MapL α} {e : List Sc × α × Nat} (he : e ∈ L) (hs : e.2.2 ∉ seen) : unseen (e.2.2 :: seen) L < unseen seen L := by
  unfold unseen
  have h1 : (L.filter fun t => !(e.2.2 :: seen).contains t.2.2) = (L.filter fun t => !seen.contains t.2.2).filter fun t => decide (t.2.2 ≠ e.2.2) := by
    rw [List.filter_filter]
    congr 1
    funext t
    simp only [List.contains_cons, Bool.not_or]
    by_cases h : t.2.2 = e.2.2 <;> simp [h]
  rw [h1]
  refine List.length_filter_lt_length_iff_exists.2 ⟨e, ?_, by simp⟩
  rw [List.mem_filter]
  exact ⟨he, by simpa using hs⟩
end
end TE

