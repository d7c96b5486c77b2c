/- W3: a part of the proof of WheelPlays: lemmas on the evaluator and on the functions that the law reaches. -/
import Derived.Test.YtlagbbfgaanpcaaW2
import Derived.Test.YtlagbbfgaanpcaaTE23
set_option maxRecDepth 100000
set_option linter.unusedVariables false
namespace Wh
open Go TE Go.Proofs
abbrev ML := MapL Int
abbrev KS : List ScK := [.int .i64, .int .i64]
def wob (L : ML) (ex : Bool) (cl : Nat) : List (TE.Obj S) := [.box [.map 1], .mapo true KS false K.int L ex cl]

/-- What a range begins with. -/
structure Good (L : ML) (cl : Nat) : Prop where
  keys : (L.map (·.1)).Nodup
  stamps : (L.map (·.2.2)).Nodup
  lt : ∀ t ∈ L, t.2.2 < cl
  sh : ∀ t ∈ L, shaped KS t.1 = true

/-- Clear. -/
def clr (i : Int) (L : ML) : ML := L.filter fun t => !(scI t.1 == i)
def clrAt (i : Int) (L0 : ML) (seen : List Nat) : ML := L0.filter fun t => !(scI t.1 == i && seen.contains t.2.2)

theorem map_nodup_filter {α β : Type} {f : α → β} {p : α → Bool} {L : List α} (h : (L.map f).Nodup) : ((L.filter p).map f).Nodup :=
  h.sublist (List.filter_sublist.map f)

theorem f14_loop (N : Nat) (i : Int) (was : Int) (cl : Nat) (L0 : ML) (hg : Good L0 cl) (kp0 : ML → Option Unit) (hk : kp0 (clr i L0) = some ()) :
    ∀ (n : Nat) (seen : List Nat), unseen seen L0 < n → f14_l0 N i was cl cl kp0 n (clrAt i L0 seen) seen cl = some () := by
  intro n
  induction n with
  | zero => intro seen h; omega
  | succ n ih =>
    intro seen hn
    show f14_l0_b N i was cl cl kp0 (f14_l0 N i was cl cl kp0 n) (clrAt i L0 seen) seen cl = some ()
    unfold f14_l0_b
    have sub : ∀ t ∈ clrAt i L0 seen, t ∈ L0 := fun t ht => (List.mem_filter.1 ht).1
    refine nextC_intro (fun e he => hg.lt e (sub e he)) (fun e he => hg.lt e (sub e he)) (fun hall => ?_) fun e he hs => ?_
    · have : clrAt i L0 seen = clr i L0 := by
        refine List.filter_congr fun t ht => ?_
        by_cases hi : scI t.1 == i
        · by_cases hm : t.2.2 ∈ seen
          · simp [hi, hm]
          · exfalso
            refine hm (hall t ?_)
            exact List.mem_filter.2 ⟨ht, by simp [hm]⟩
        · simp [hi]
      rw [this]; exact hk
    · have he0 := sub e he
      rw [if_pos rfl]
      have hfind : findB e.2.2 (clrAt i L0 seen) = some e := findB_mem (map_nodup_filter hg.stamps) he
      simp only [hfind]
      rw [key2 (hg.sh e he0)]
      have hlt := unseen_lt he0 hs
      have hkeys := hg.keys
      have heq : ∀ t ∈ L0, t.2.2 = e.2.2 ↔ t.1 = e.1 := by
        intro t ht
        exact ⟨fun h => by rw [nodup_inj (f := fun t : List Sc × Int × Nat => t.2.2) hg.stamps ht he0 h], fun h => by rw [nodup_inj (f := fun t : List Sc × Int × Nat => t.1) hg.keys ht he0 h]⟩
      split
      · rename_i hi
        rw [delM_filter (L := clrAt i L0 seen) (map_nodup_filter hg.keys)]
        have : (clrAt i L0 seen).filter (fun t => decide (t.1 ≠ e.1)) = clrAt i L0 (e.2.2 :: seen) := by
          unfold clrAt
          rw [List.filter_filter]
          refine List.filter_congr fun t ht => ?_
          have := heq t ht
          by_cases h1 : t.1 = e.1
          · have h2 := this.2 h1
            have hti : scI t.1 == i := by rw [h1]; exact hi
            simp [h1, h2, hi]
          · have h2 : ¬ t.2.2 = e.2.2 := fun h => h1 (this.1 h)
            simp [h1, h2]
        rw [this]; exact ih _ (by omega)
      · rename_i hi
        have : clrAt i L0 seen = clrAt i L0 (e.2.2 :: seen) := by
          refine List.filter_congr fun t ht => ?_
          have := heq t ht
          by_cases h2 : t.2.2 = e.2.2
          · have h1 := this.1 h2
            have hti : (scI t.1 == i) = false := by rw [h1]; simpa using hi
            simp [hti]
          · simp [h2]
        rw [this]; exact ih _ (by omega)

theorem perm_filter {p : List Sc × Int × Nat → Bool} (hp : ∀ a b : List Sc × Int × Nat, a.1 = b.1 → a.2.1 = b.2.1 → p a = p b) {L L' : ML} (h : (L'.map fun t => (t.1, t.2.1)).Perm (L.map fun t => (t.1, t.2.1))) :
    ((L'.filter p).map fun t => (t.1, t.2.1)).Perm ((L.filter p).map fun t => (t.1, t.2.1)) := by
  have key : ∀ X : ML, (X.filter p).map (fun t => (t.1, t.2.1)) = (X.map fun t => (t.1, t.2.1)).filter fun u => p (u.1, u.2, 0) := by
    intro X
    rw [List.filter_map]
    congr 1
    refine List.filter_congr fun t _ => hp _ _ rfl rfl
  rw [key, key]
  exact h.filter _

abbrev Same (L' L : ML) : Prop := (L'.map fun t => (t.1, t.2.1)).Perm (L.map fun t => (t.1, t.2.1))
theorem Same.len {L' L : ML} (h : Same L' L) : L'.length = L.length := by have := h.length_eq; rwa [List.length_map, List.length_map] at this
/-- Order and stamps of the wheel's map are chosen. -/
theorem wex {f : FuncId} {args : List (TV S)} {Q : Res S → Prop} {L : ML} {ex : Bool} {cl : Nat} (hq : ∀ res, Q res → ∃ xs, res.xs = some xs) (hf : ∃ fn, (E noCalls).P.funcs[f]? = some fn ∧ (fn.name == "runtime.NumGoroutine") = false ∧ fn.body.isNone = false)
    (h : ∀ (L' : ML) (cl' : Nat), Same L' L → Good L' cl' → CallOKs (E noCalls) f args (wob L' true cl') Q) : CallOKs (E noCalls) f args (wob L ex cl) Q :=
  CallOKs.exact (nm := 1) (objs := wob L ex cl) rfl hq (fun L' cl' hp hk hs hlt hsh => h L' cl' hp ⟨hk, hs, hlt, hsh⟩) hf
/-- Order and stamps are let go. -/
theorem wle {v : TV S} {L' L : ML} {cl' cl : Nat} {objs : List (TE.Obj S)} {ns : List (TE.Obj S)} (h : Same L' L) : ResLe objs ⟨v, some (wob L' true cl'), ns⟩ ⟨v, some (wob L false cl), ns⟩ := by
  refine ⟨rfl, fun n => ?_⟩
  match n with
  | 0 => exact .inr ⟨_, _, rfl, rfl, .refl _⟩
  | 1 => exact .inr ⟨_, _, rfl, rfl, .map _ _ _ _ _ _ _ _ _ h⟩
  | n + 2 =>
    have e : ∀ (X : ML) (ex : Bool) (cl : Nat), ((some (wob X ex cl)).getD objs ++ ns)[n + 2]? = ns[n]? := fun X ex cl => rfl
    rw [e, e]
    cases ns[n]? with
    | none => exact .inl ⟨rfl, rfl⟩
    | some x => exact .inr ⟨x, x, rfl, rfl, .refl _⟩
theorem c14 (N : Nat) (L : ML) (ex : Bool) (cl : Nat) (i : Int) : CallOK (E noCalls) 14 [.ptr 0 0 0, .int .i64 i] (wob L ex cl)
    ⟨.int .i64 (IntKind.wrap .i64 (((L.length : Nat) : Int) - (((clr i L).length : Nat) : Int))), some (wob (clr i L) false cl), []⟩ := by
  refine CallOKs.one ?_
  refine wex (fun res h => ⟨_, congrArg Res.xs h⟩) ⟨Try.f14, by kernel_rfl, by kernel_rfl, by kernel_rfl⟩ fun L' cl' hp hg => ?_
  have hpf : Same (clr i L') (clr i L) := perm_filter (p := fun t => !(scI t.1 == i)) (fun a b h1 h2 => by rw [h1]) hp
  have hrun := f14_call (unseen [] L' + 1) i L' cl' (fun res : Res S => okIf (res = ⟨.int .i64 (IntKind.wrap .i64 (((L'.length : Nat) : Int) - (((clr i L').length : Nat) : Int))), some (wob (clr i L') true cl'), []⟩)) (by
    refine (f14_run _ _ _ _ _).trans ?_
    unfold f14
    have h0 : clrAt i L' [] = L' := by unfold clrAt; simp
    have key := fun kp0 hk => f14_loop (unseen [] L' + 1) i ((L'.length : Nat) : Int) cl' L' hg kp0 hk (unseen [] L' + 1) [] (by omega)
    rw [h0] at key
    refine key _ ?_
    exact okIf_iff.2 rfl)
  refine hrun.weaken fun res h => ⟨_, rfl, ?_⟩
  rw [okIf_iff] at h
  subst h
  rw [hp.len, hpf.len]
  exact wle hpf

/-- Next. -/
def least (m : Int) (L : ML) : Int := L.foldl (fun m t => if t.2.1 < m then t.2.1 else m) m
theorem least_le (L : ML) : ∀ m, least m L ≤ m ∧ (∀ t ∈ L, least m L ≤ t.2.1) ∧ (least m L = m ∨ ∃ t ∈ L, least m L = t.2.1) := by
  induction L with
  | nil => intro m; exact ⟨Int.le_refl _, by simp, .inl rfl⟩
  | cons x r ih =>
    intro m
    obtain ⟨h1, h2, h3⟩ := ih (if x.2.1 < m then x.2.1 else m)
    have e : least m (x :: r) = least (if x.2.1 < m then x.2.1 else m) r := rfl
    rw [e]
    have hm1 : (if x.2.1 < m then x.2.1 else m) ≤ m := by split <;> omega
    have hm2 : (if x.2.1 < m then x.2.1 else m) ≤ x.2.1 := by split <;> omega
    refine ⟨Int.le_trans h1 hm1, fun t ht => ?_, ?_⟩
    · rcases List.mem_cons.1 ht with e1 | ht
      · rw [e1]; exact Int.le_trans h1 hm2
      · exact h2 t ht
    · rcases h3 with h | ⟨t, ht, h⟩
      · rw [h]
        split
        · exact .inr ⟨x, by simp, rfl⟩
        · exact .inl rfl
      · exact .inr ⟨t, List.mem_cons_of_mem _ ht, h⟩
theorem least_eq {L : ML} {m v : Int} (h1 : v ≤ m) (h2 : ∀ t ∈ L, v ≤ t.2.1) (h3 : v = m ∨ ∃ t ∈ L, v = t.2.1) : least m L = v := by
  obtain ⟨k1, k2, k3⟩ := least_le L m
  have : v ≤ least m L := by
    rcases k3 with k | ⟨t, ht, k⟩
    · omega
    · rw [k]; exact h2 t ht
  rcases h3 with h | ⟨t, ht, h⟩
  · omega
  · have := k2 t ht; omega
theorem least_same {L L' : ML} (h : Same L' L) (m : Int) : least m L' = least m L := by
  obtain ⟨k1, k2, k3⟩ := least_le L m
  have back : ∀ t ∈ L', ∃ u ∈ L, u.2.1 = t.2.1 := by
    intro t ht
    have := h.subset (List.mem_map.2 ⟨t, ht, rfl⟩)
    obtain ⟨u, hu, e⟩ := List.mem_map.1 this
    exact ⟨u, hu, by simpa using congrArg Prod.snd e⟩
  have forth : ∀ t ∈ L, ∃ u ∈ L', u.2.1 = t.2.1 := by
    intro t ht
    have := h.symm.subset (List.mem_map.2 ⟨t, ht, rfl⟩)
    obtain ⟨u, hu, e⟩ := List.mem_map.1 this
    exact ⟨u, hu, by simpa using congrArg Prod.snd e⟩
  refine least_eq k1 (fun t ht => ?_) ?_
  · obtain ⟨u, hu, e⟩ := back t ht
    rw [← e]; exact k2 u hu
  · rcases k3 with k | ⟨t, ht, k⟩
    · exact .inl k
    · obtain ⟨u, hu, e⟩ := forth t ht
      exact .inr ⟨u, hu, by rw [k, e]⟩
theorem f23_loop (N : Nat) (cl : Nat) (L0 : ML) (hg : Good L0 cl) (kp0 : Int → Option Unit) (hk : kp0 (least 65536 L0) = some ()) :
    ∀ (n : Nat) (seen : List Nat) (m : Int), unseen seen L0 < n → (m ≤ 65536 ∧ (∀ t ∈ L0, t.2.2 ∈ seen → m ≤ t.2.1) ∧ (m = 65536 ∨ ∃ t ∈ L0, m = t.2.1)) → f23_l0 N L0 cl cl kp0 n m seen cl = some () := by
  intro n
  induction n with
  | zero => intro seen m h; omega
  | succ n ih =>
    intro seen m hn hm
    show f23_l0_b N L0 cl cl kp0 (f23_l0 N L0 cl cl kp0 n) m seen cl = some ()
    unfold f23_l0_b
    refine nextC_intro (fun e he => hg.lt e he) (fun e he => hg.lt e he) (fun hall => ?_) fun e he hs => ?_
    · rw [← least_eq hm.1 (fun t ht => hm.2.1 t ht (hall t ht)) hm.2.2] ; exact hk
    · rw [if_pos rfl]
      simp only [findB_mem hg.stamps he]
      refine ih _ _ (by have := unseen_lt he hs; omega) ⟨?_, fun t ht hts => ?_, ?_⟩
      · split <;> omega
      · rcases List.mem_cons.1 hts with h | h
        · have : t = e := nodup_inj (f := fun t : List Sc × Int × Nat => t.2.2) hg.stamps ht he h
          subst this
          split <;> omega
        · have := hm.2.1 t ht h
          split <;> omega
      · split
        · exact .inr ⟨e, he, rfl⟩
        · exact hm.2.2
def nextRes (L : ML) (ex : Bool) (cl : Nat) : Res S := if L.length = 0 then ⟨.tup [.int .i64 0, .bool false], some (wob L ex cl), []⟩ else ⟨.tup [.int .i64 (least 65536 L), .bool true], some (wob L ex cl), []⟩
theorem c23 (L : ML) (ex : Bool) (cl : Nat) : CallOK (E noCalls) 23 [.ptr 0 0 0] (wob L ex cl) (nextRes L false cl) := by
  refine CallOKs.one ?_
  refine wex (fun res h => by rw [h]; unfold nextRes; split <;> exact ⟨_, rfl⟩) ⟨Try.f23, by kernel_rfl, by kernel_rfl, by kernel_rfl⟩ fun L' cl' hp hg => ?_
  have hrun := f23_call (unseen [] L' + 1) L' cl' (fun res : Res S => okIf (res = nextRes L' true cl')) (by
    refine (f23_run _ _ _ _).trans ?_
    unfold f23
    by_cases h0 : L'.length = 0
    · rw [if_pos (by simp [h0])]
      refine okIf_iff.2 ?_
      unfold nextRes
      rw [if_pos h0]; rfl
    · rw [if_neg (by simp only [beq_iff_eq]; omega)]
      refine f23_loop (unseen [] L' + 1) cl' L' hg _ ?_ (unseen [] L' + 1) [] 65536 (by omega) ⟨Int.le_refl _, by simp, .inl rfl⟩
      refine okIf_iff.2 ?_
      unfold nextRes
      rw [if_neg h0]; rfl)
  refine hrun.weaken fun res h => ⟨_, rfl, ?_⟩
  rw [okIf_iff] at h
  subst h
  unfold nextRes
  rw [hp.len, least_same hp]
  split
  · exact wle hp
  · exact wle hp
end Wh
