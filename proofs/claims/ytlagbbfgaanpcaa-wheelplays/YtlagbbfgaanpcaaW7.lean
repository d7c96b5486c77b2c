/- W7: a part of the proof of WheelPlays: lemmas on the evaluator and on the functions that the law reaches. -/
import Derived.Test.YtlagbbfgaanpcaaW6
set_option maxRecDepth 100000
set_option linter.unusedVariables false
namespace Wh
open Go TE Go.Proofs
abbrev Ent := List Sc × Int × Nat
def firedOf (t : Ent) : Fired := ⟨scI t.1, scI t.1.tail⟩
def keyOf (f : Fired) : List Sc := [.int .i64 f.inst, .int .i64 f.timer]
theorem keyOf_firedOf {t : Ent} (h : shaped KS t.1 = true) : keyOf (firedOf t) = t.1 := key2 h
def dec1 (n : Int) : Int := IntKind.wrap .i64 (n - 1)
def tk (t : Ent) : Ent := (t.1, if t.2.1 == 1 then t.2.1 else dec1 t.2.1, t.2.2)
def tkAt (seen : List Nat) (t : Ent) : Ent := if seen.contains t.2.2 then tk t else t
theorem tkAt_key (seen : List Nat) (t : Ent) : (tkAt seen t).1 = t.1 := by unfold tkAt tk; split <;> rfl
theorem tkAt_stamp (seen : List Nat) (t : Ent) : (tkAt seen t).2.2 = t.2.2 := by unfold tkAt tk; split <;> rfl
theorem filter_add {p : Ent → Bool} : ∀ {L : ML} {e : Ent}, (L.map (·.2.2)).Nodup → e ∈ L → p e = false → (L.filter fun t => p t || decide (t.2.2 = e.2.2)).Perm (L.filter p ++ [e])
  | [], e, _, he, _ => by simp at he
  | x :: r, e, hn, he, hp => by
    simp only [List.map_cons, List.nodup_cons] at hn
    rcases List.mem_cons.1 he with rfl | he
    · rw [List.filter_cons_of_pos (by simp), List.filter_cons_of_neg (by simp [hp])]
      have : (r.filter fun t => p t || decide (t.2.2 = e.2.2)) = r.filter p := by
        refine List.filter_congr fun t ht => ?_
        have : t.2.2 ≠ e.2.2 := fun h => hn.1 (by rw [← h]; exact List.mem_map.2 ⟨t, ht, rfl⟩)
        simp [this]
      rw [this]
      exact (List.perm_append_comm (l₁ := [e])).symm.symm
    · have hne : x.2.2 ≠ e.2.2 := fun h => hn.1 (by rw [h]; exact List.mem_map.2 ⟨e, he, rfl⟩)
      have ih := filter_add (p := p) hn.2 he hp
      by_cases hx : p x = true
      · rw [List.filter_cons_of_pos (by simp [hx]), List.filter_cons_of_pos hx]
        exact ih.cons x
      · rw [List.filter_cons_of_neg (by simp [hx, hne]), List.filter_cons_of_neg hx]
        exact ih
theorem len_filter_le (p : Ent → Bool) (L : ML) : (L.filter p).length ≤ L.length := List.length_filter_le _ _

theorem f10_loop (N : Nat) (cl : Nat) (L0 : ML) (hg : Good L0 cl) (hL : L0.length ≤ 1000) (kp0 : ML → Nat → List Fired → Option Unit) (hk : ∀ l, l.Perm ((L0.filter fun t => t.2.1 == 1).map firedOf) → kp0 (L0.map tk) cl l = some ()) :
    ∀ (n : Nat) (seen : List Nat) (l : List Fired), unseen seen L0 < n → l.Perm ((L0.filter fun t => seen.contains t.2.2 && t.2.1 == 1).map firedOf) → f10_l0 N cl kp0 n (L0.map (tkAt seen)) cl l seen cl = some () := by
  intro n
  induction n with
  | zero => intro seen l h; omega
  | succ n ih =>
    intro seen l hn hl
    show f10_l0_b N cl kp0 (f10_l0 N cl kp0 n) (L0.map (tkAt seen)) cl l seen cl = some ()
    unfold f10_l0_b
    have hst : ((L0.map (tkAt seen)).map (·.2.2)).Nodup := by
      rw [List.map_map]
      have : ((fun x : Ent => x.2.2) ∘ tkAt seen) = fun x : Ent => x.2.2 := funext fun t => tkAt_stamp seen t
      rw [this]; exact hg.stamps
    have hke : ((L0.map (tkAt seen)).map (·.1)) = L0.map (·.1) := by
      rw [List.map_map]
      have : ((fun x : Ent => x.1) ∘ tkAt seen) = fun x : Ent => x.1 := funext fun t => tkAt_key seen t
      rw [this]
    have lt : ∀ e ∈ L0.map (tkAt seen), e.2.2 < cl := by
      intro e he
      obtain ⟨t, ht, rfl⟩ := List.mem_map.1 he
      rw [tkAt_stamp]; exact hg.lt t ht
    refine nextC_intro lt lt (fun hall => ?_) fun e he hs => ?_
    · have hall' : ∀ t ∈ L0, t.2.2 ∈ seen := fun t ht => by
        have := hall _ (List.mem_map.2 ⟨t, ht, rfl⟩)
        rwa [tkAt_stamp] at this
      have e1 : L0.map (tkAt seen) = L0.map tk := List.map_congr_left fun t ht => by unfold tkAt; rw [if_pos (by simpa using hall' t ht)]
      rw [e1]
      refine hk l ?_
      have e2 : (L0.filter fun t => seen.contains t.2.2 && t.2.1 == 1) = L0.filter fun t => t.2.1 == 1 := List.filter_congr fun t ht => by simp [hall' t ht]
      rwa [e2] at hl
    · rw [if_pos rfl]
      rw [findB_mem hst he]
      obtain ⟨t, ht, rfl⟩ := List.mem_map.1 he
      rw [tkAt_stamp] at hs
      have et : tkAt seen t = t := by unfold tkAt; rw [if_neg (by simpa using hs)]
      rw [et] at he ⊢
      simp only []
      have hlt := unseen_lt ht hs
      have step : ∀ x ∈ L0, x.2.2 ≠ t.2.2 → tkAt (t.2.2 :: seen) x = tkAt seen x := by
        intro x hx hne
        unfold tkAt
        simp only [List.contains_cons]
        have : (x.2.2 == t.2.2) = false := by simpa using hne
        rw [this, Bool.false_or]
      have self : tkAt (t.2.2 :: seen) t = tk t := by unfold tkAt; rw [if_pos (by simp)]
      have same : ∀ x ∈ L0, x.2.2 = t.2.2 → x = t := fun x hx h => nodup_inj (f := fun t : Ent => t.2.2) hg.stamps hx ht h
      split
      · rename_i h1
        have hlen : l.length + [(⟨scI t.1, scI t.1.tail⟩ : Fired)].length ≤ maxRow := by
          have h2 := hl.length_eq
          rw [List.length_map] at h2
          have h3 : l.length ≤ L0.length := by rw [h2]; exact List.length_filter_le _ _
          simp only [List.length_cons, List.length_nil, maxRow]
          omega
        have : L0.map (tkAt seen) = L0.map (tkAt (t.2.2 :: seen)) := List.map_congr_left fun x hx => by
          by_cases hx2 : x.2.2 = t.2.2
          · have := same x hx hx2
            subst this
            rw [self, et]
            unfold tk
            rw [if_pos h1]
          · rw [step x hx hx2]
        rw [if_pos hlen, this]
        refine ih _ _ (by omega) ?_
        have hp := filter_add (p := fun x => seen.contains x.2.2 && x.2.1 == 1) hg.stamps ht (by simp [hs])
        have e3 : (L0.filter fun x => (t.2.2 :: seen).contains x.2.2 && x.2.1 == 1) = L0.filter fun x => (seen.contains x.2.2 && x.2.1 == 1) || decide (x.2.2 = t.2.2) := by
          refine List.filter_congr fun x hx => ?_
          by_cases hx2 : x.2.2 = t.2.2
          · have := same x hx hx2
            subst this
            simp [h1]
          · simp [hx2]
        rw [e3]
        have := hp.map firedOf
        rw [List.map_append] at this
        exact (hl.append_right _).trans this.symm
      · rename_i h1
        rw [key2 (hg.sh t ht)]
        have hmem : t.1 ∈ (L0.map (tkAt seen)).map (·.1) := by rw [hke]; exact List.mem_map.2 ⟨t, ht, rfl⟩
        rw [if_pos (findM_some.2 hmem), updM_map (by rw [hke]; exact hg.keys) hmem]
        have : (L0.map (tkAt seen)).map (fun x => if x.1 = t.1 then (t.1, IntKind.wrap .i64 (t.2.1 - 1), x.2.2) else x) = L0.map (tkAt (t.2.2 :: seen)) := by
          rw [List.map_map]
          refine List.map_congr_left fun x hx => ?_
          show (if (tkAt seen x).1 = t.1 then _ else _) = _
          by_cases hx2 : x.2.2 = t.2.2
          · have := same x hx hx2
            subst this
            rw [self, et, if_pos rfl]
            unfold tk
            rw [if_neg h1]; rfl
          · have hk1 : x.1 ≠ t.1 := fun h => hx2 (by rw [nodup_inj (f := fun t : Ent => t.1) hg.keys hx ht h])
            rw [step x hx hx2, tkAt_key, if_neg hk1]
        rw [this]
        refine ih _ _ (by omega) ?_
        have e3 : (L0.filter fun x => (t.2.2 :: seen).contains x.2.2 && x.2.1 == 1) = L0.filter fun x => seen.contains x.2.2 && x.2.1 == 1 := by
          refine List.filter_congr fun x hx => ?_
          by_cases hx2 : x.2.2 = t.2.2
          · have := same x hx hx2
            subst this
            have : (x.2.1 == 1) = false := by simpa using h1
            simp [this]
          · simp [hx2]
        rw [e3]; exact hl

/-- What fired is deleted. -/
theorem f10_loop2 (N : Nat) (cl : Nat) (l : List Fired) (hl : l.length ≤ 1000) (L1 : ML) (hk1 : (L1.map (·.1)).Nodup) (kp0 : ML → Option Unit) (hk : kp0 (L1.filter fun t => decide (t.1 ∉ l.map keyOf)) = some ()) :
    ∀ (n i : Nat), i ≤ l.length → l.length < n + i → f10_l2 N ((l.length : Nat) : Int) cl l kp0 n (i : Int) (L1.filter fun t => decide (t.1 ∉ (l.take i).map keyOf)) = some () := by
  intro n
  induction n with
  | zero => intro i h1 h2; omega
  | succ n ih =>
    intro i h1 h2
    show f10_l2_b N ((l.length : Nat) : Int) cl l kp0 (f10_l2 N ((l.length : Nat) : Int) cl l kp0 n) (i : Int) _ = some ()
    unfold f10_l2_b
    by_cases hi : i < l.length
    · rw [if_pos (by simpa using hi), if_pos ⟨by omega, by omega⟩]
      have hget : l[(i : Int).toNat]? = some l[i] := by rw [Int.toNat_natCast]; exact List.getElem?_eq_getElem hi
      rw [hget]
      simp only []
      rw [wr _ (by omega) (by omega), delM_filter (map_nodup_filter hk1), List.filter_filter]
      have : (L1.filter fun t => decide (t.1 ≠ [Sc.int .i64 l[i].inst, Sc.int .i64 l[i].timer]) && decide (t.1 ∉ (l.take i).map keyOf)) = L1.filter fun t => decide (t.1 ∉ (l.take (i + 1)).map keyOf) := by
        refine List.filter_congr fun t ht => ?_
        rw [List.take_succ_eq_append_getElem hi, List.map_append]
        simp only [List.map_cons, List.map_nil, List.mem_append, List.mem_singleton, not_or]
        by_cases h : t.1 = keyOf l[i]
        · simp [h, keyOf]
        · have h' : t.1 ≠ [Sc.int .i64 l[i].inst, Sc.int .i64 l[i].timer] := h
          simp [h, h']
      rw [this]
      have := ih (i + 1) (by omega) (by omega)
      rw [show ((i : Int) + 1) = ((i + 1 : Nat) : Int) by omega]
      exact this
    · have : i = l.length := by omega
      subst this
      rw [if_neg (by simp), List.take_length]
      exact hk

noncomputable def tickF (L : ML) : List Fired := srt ((L.filter fun t => t.2.1 == 1).map firedOf)
def tickL (L : ML) : ML := (L.filter fun t => !(t.2.1 == 1)).map tk
theorem tick_deleted {cl : Nat} {L0 : ML} (hg : Good L0 cl) {l : List Fired} (hl : l.Perm ((L0.filter fun t => t.2.1 == 1).map firedOf)) : ((L0.map tk).filter fun t => decide (t.1 ∉ l.map keyOf)) = tickL L0 := by
  unfold tickL
  rw [List.filter_map]
  congr 1
  refine List.filter_congr fun t ht => ?_
  show decide ((tk t).1 ∉ l.map keyOf) = _
  have e : (tk t).1 = t.1 := rfl
  rw [e]
  have key : t.1 ∈ l.map keyOf ↔ t.2.1 = 1 := by
    constructor
    · intro h
      obtain ⟨f, hf, ek⟩ := List.mem_map.1 h
      obtain ⟨u, hu, rfl⟩ := List.mem_map.1 (hl.subset hf)
      rw [List.mem_filter] at hu
      rw [keyOf_firedOf (hg.sh u hu.1)] at ek
      have := nodup_inj (f := fun t : Ent => t.1) hg.keys hu.1 ht ek
      subst this
      simpa using hu.2
    · intro h
      refine List.mem_map.2 ⟨firedOf t, hl.symm.subset (List.mem_map.2 ⟨t, List.mem_filter.2 ⟨ht, by simpa using h⟩, rfl⟩), keyOf_firedOf (hg.sh t ht)⟩
  by_cases h : t.2.1 = 1 <;> simp [key, h]
theorem tickL_same {L L' : ML} (h : Same L' L) : Same (tickL L') (tickL L) := by
  have h1 := perm_filter (p := fun t => !(t.2.1 == 1)) (fun a b _ h => by rw [h]) h
  have key : ∀ X : ML, (tickL X).map (fun t => (t.1, t.2.1)) = ((X.filter fun t => !(t.2.1 == 1)).map fun t => (t.1, t.2.1)).map fun u : List Sc × Int => (u.1, if u.2 == 1 then u.2 else dec1 u.2) := by
    intro X
    unfold tickL
    rw [List.map_map, List.map_map]; rfl
  show ((tickL L').map _).Perm ((tickL L).map _)
  rw [key, key]
  exact h1.map _
theorem tickF_same {L L' : ML} (h : Same L' L) : tickF L' = tickF L := by
  have h1 := perm_filter (p := fun t => t.2.1 == 1) (fun a b _ h => by rw [h]) h
  unfold tickF
  refine srt_perm ?_
  have key : ∀ X : ML, (X.filter fun t => t.2.1 == 1).map firedOf = ((X.filter fun t => t.2.1 == 1).map fun t => (t.1, t.2.1)).map fun u : List Sc × Int => (⟨scI u.1, scI u.1.tail⟩ : Fired) := by
    intro X
    rw [List.map_map]; rfl
  rw [key, key]
  exact h1.map _

theorem c10 (L : ML) (ex : Bool) (cl : Nat) (hL : L.length ≤ 1000) : CallOK (E noCalls) 10 [.ptr 0 0 0] (wob L ex cl) ⟨.tree .fired (tickF L), some (wob (tickL L) false cl), []⟩ := by
  refine CallOKs.one ?_
  refine wex (fun res h => ⟨_, congrArg Res.xs h⟩) ⟨Try.f10, by kernel_rfl, by kernel_rfl, by kernel_rfl⟩ fun L' cl' hp hg => ?_
  have hL' : L'.length ≤ 1000 := by rw [hp.len]; exact hL
  have hrun := f10_call (unseen [] L' + 1001) L' cl' (fun res : Res S => okIf (res = ⟨.tree .fired (tickF L'), some (wob (tickL L') true cl'), []⟩)) (by
    refine (f10_run _ _ _ _).trans ?_
    unfold f10
    have h0 : L'.map (tkAt []) = L' := by
      refine (List.map_congr_left fun t _ => ?_).trans (List.map_id _)
      rfl
    have key := fun kp0 hk => f10_loop (unseen [] L' + 1001) cl' L' hg hL' kp0 hk (unseen [] L' + 1001) [] [] (by omega) (by simp)
    rw [h0] at key
    refine key _ fun l hl => ?_
    have hll : l.length ≤ 1000 := by
      have h2 := hl.length_eq
      rw [List.length_map] at h2
      have h3 : l.length ≤ L'.length := by rw [h2]; exact List.length_filter_le _ _
      omega
    have hk1 : ((L'.map tk).map (·.1)).Nodup := by
      rw [List.map_map]
      have : ((fun x : Ent => x.1) ∘ tk) = fun x : Ent => x.1 := rfl
      rw [this]; exact hg.keys
    have k2 := fun kp0 hk => f10_loop2 (unseen [] L' + 1001) cl' l hll (L'.map tk) hk1 kp0 hk (unseen [] L' + 1001) 0 (by omega) (by omega)
    have e0 : ((L'.map tk).filter fun t => decide (t.1 ∉ (l.take 0).map keyOf)) = L'.map tk := by simp
    rw [e0] at k2
    refine k2 _ ?_
    rw [tick_deleted hg hl]
    show (if l.length < 4611686018427387904 then _ else none) = some ()
    rw [if_pos (by omega)]
    refine okIf_iff.2 ?_
    rw [srt_perm hl]
    rfl)
  refine hrun.weaken fun res h => ⟨_, rfl, ?_⟩
  rw [okIf_iff] at h
  subst h
  rw [tickF_same hp]
  exact wle (tickL_same hp)
end Wh
