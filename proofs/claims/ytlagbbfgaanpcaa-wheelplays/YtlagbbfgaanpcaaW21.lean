/- W21: a part of the proof of WheelPlays: lemmas on the evaluator and on the functions that the law reaches. -/
import Derived.Test.YtlagbbfgaanpcaaW19
set_option maxRecDepth 100000
set_option linter.unusedVariables false
namespace Wh
open Go TE Go.Proofs
structure Rl (L : ML) (X : List Timer) : Prop where
  wf : WF L
  perm : (V L).Perm (cont X)
  srt : X.Pairwise fun a b => ltF a.f b.f = true
  vals : ∀ e ∈ X, 1 ≤ e.left ∧ e.left ≤ 65536
theorem Rl.len {L : ML} {X : List Timer} (h : Rl L X) : L.length = X.length := by
  have := h.perm.length_eq
  rw [V_len] at this
  rw [this]; unfold cont; simp
theorem Rl.find {L : ML} {X : List Timer} (h : Rl L X) (f : Fired) : findM (keyOf f) L = lk f (cont X) := by
  rw [lk_find h.wf, lk_perm (V_keys h.wf) h.perm]
theorem Rl.next {R : Type} {L : ML} {X : List Timer} (h : Rl L X) (N : Nat) (hN : X.length < N) (hl : X.length ≤ 1000) (k : Int → Bool → Option R) : f24 N X k = next23 L k := by
  unfold next23
  cases X with
  | nil => rw [if_pos (show L.length = 0 from h.len)]; unfold f24; rfl
  | cons x r =>
    have hlen := h.len
    rw [if_neg (by rw [hlen]; simp), f24_eq N x r (by simpa using hN) (by simp at hl; omega)]
    congr 1
    obtain ⟨k1, k2, k3⟩ := leastT_le r x.left
    have hmem : ∀ e ∈ x :: r, ∃ t ∈ L, t.2.1 = e.left := by
      intro e he
      have := h.perm.symm.subset (List.mem_map.2 ⟨e, he, rfl⟩)
      obtain ⟨t, ht, e2⟩ := List.mem_map.1 this
      exact ⟨t, ht, by simpa using congrArg Prod.snd e2⟩
    have hback : ∀ t ∈ L, ∃ e ∈ x :: r, e.left = t.2.1 := by
      intro t ht
      have := h.perm.subset (List.mem_map.2 ⟨t, ht, rfl⟩)
      obtain ⟨e, he, e2⟩ := List.mem_map.1 this
      exact ⟨e, he, by simpa using congrArg Prod.snd e2⟩
    refine (least_eq ?_ (fun t ht => ?_) ?_).symm
    · have := (h.vals x (by simp)).2; omega
    · obtain ⟨e, he, e2⟩ := hback t ht
      rw [← e2]
      rcases List.mem_cons.1 he with rfl | he
      · exact k1
      · exact k2 e he
    · right
      rcases k3 with k | ⟨e, he, k⟩
      · obtain ⟨t, ht, e2⟩ := hmem x (by simp)
        exact ⟨t, ht, by rw [k, e2]⟩
      · obtain ⟨t, ht, e2⟩ := hmem e (List.mem_cons_of_mem _ he)
        exact ⟨t, ht, by rw [k, e2]⟩
theorem next_dup {R : Type} (L : ML) (F : Int → Bool → Int → Bool → Option R) : (next23 L fun a b => next23 L fun c d => F a b c d) = next23 L fun a b => F a b a b := by
  unfold next23
  by_cases h : L.length = 0
  · simp only [if_pos h]
  · simp only [if_neg h]
theorem next_const {R : Type} (L : ML) (r : Option R) : (next23 L fun _ _ => r) = r := by
  unfold next23
  split <;> rfl
theorem tailE {R : Type} (N : Nat) (a b : Int) (L : ML) (X : List Timer) (h : Rl L X) (hN : X.length < N) (hl : X.length ≤ 1000) (c : Bool) (F G : Option R) :
    (f22 N a b X fun r17 r18 => next23 L fun r19 r20 => f24 N X fun r21 r22 =>
      (ifB (!c) false (some (((findM [.int .i64 a, .int .i64 b] L).getD 0) != r17)) (some true)).bind fun c23 =>
      (ifB c23 false (some (!(((findM [.int .i64 a, .int .i64 b] L).isSome) == r18))) (some true)).bind fun c24 =>
      (ifB c24 false (some (r19 != r21)) (some true)).bind fun c25 =>
      (ifB c25 false (some (!(r20 == r22))) (some true)).bind fun c26 =>
      (ifB c26 false (some (((L.length : Nat) : Int) != ((X.length : Nat) : Int))) (some true)).bind fun c27 =>
      if c27 = true then F else G) = if c = true then G else F := by
  rw [f22_eq N a b X hN hl]
  have h24 := fun k : Int → Bool → Option R => h.next N hN hl k
  simp only [h24]
  rw [next_dup]
  have hf : findM [Sc.int .i64 a, Sc.int .i64 b] L = lk ⟨a, b⟩ (cont X) := h.find ⟨a, b⟩
  rw [hf, h.len]
  cases c with
  | true => simp [ifB_ff, next_const]
  | false => simp [ifB_ff, next_const]
theorem cont_filter (X : List Timer) (p : Timer → Bool) (q : Fired × Int → Bool) (h : ∀ e, p e = q (e.f, e.left)) : cont (X.filter p) = (cont X).filter q := by
  unfold cont
  rw [List.filter_map]
  congr 1
  exact List.filter_congr fun e _ => h e
theorem cont_ins (f : Fired) (n : Int) : ∀ X : List Timer, (cont (insT f n X)).Perm ((f, n) :: cont X)
  | [] => List.Perm.refl _
  | e :: r => by
    unfold insT
    split
    · exact List.Perm.refl _
    · exact ((cont_ins f n r).cons (e.f, e.left)).trans (List.Perm.swap _ _ _)
theorem mem_ins {f : Fired} {n : Int} {x : Timer} : ∀ {X : List Timer}, x ∈ insT f n X → x = ⟨f, n⟩ ∨ x ∈ X
  | [], h => by simp [insT] at h; exact .inl h
  | e :: r, h => by
    unfold insT at h
    split at h
    · rcases List.mem_cons.1 h with h | h
      · exact .inl h
      · exact .inr h
    · rcases List.mem_cons.1 h with h | h
      · exact .inr (by rw [h]; simp)
      · rcases mem_ins h with h | h
        · exact .inl h
        · exact .inr (List.mem_cons_of_mem _ h)
theorem ltF_trans {x y z : Fired} (h1 : ltF x y = true) (h2 : ltF y z = true) : ltF x z = true := by
  rw [ltF_iff] at *; omega
theorem ins_srt (f : Fired) (n : Int) : ∀ X : List Timer, X.Pairwise (fun a b => ltF a.f b.f = true) → (∀ e ∈ X, e.f ≠ f) → (insT f n X).Pairwise fun a b => ltF a.f b.f = true
  | [], _, _ => by simp [insT]
  | e :: r, h, hne => by
    rw [List.pairwise_cons] at h
    unfold insT
    split
    · rename_i hp
      rw [List.pairwise_cons]
      refine ⟨fun x hx => ?_, by rw [List.pairwise_cons]; exact h⟩
      rcases List.mem_cons.1 hx with rfl | hx
      · exact hp
      · exact ltF_trans hp (h.1 x hx)
    · rename_i hp
      rw [List.pairwise_cons]
      refine ⟨fun x hx => ?_, ins_srt f n r h.2 fun x hx => hne x (List.mem_cons_of_mem _ hx)⟩
      rcases mem_ins hx with rfl | hx
      · cases hlt : ltF e.f f with
        | true => rfl
        | false => exact absurd (ltF_tie _ _ hlt (by simpa using hp)) (hne e (by simp))
      · exact h.1 x hx
theorem ins_len (f : Fired) (n : Int) (X : List Timer) : (insT f n X).length = X.length + 1 := by
  have := (cont_ins f n X).length_eq
  simpa [cont] using this
/-- Arm. -/
theorem f16_ok {R : Type} (N : Nat) (a b n : Int) (X : List Timer) (hN : X.length < N) (hl : X.length ≤ 1000) (k : Int → List Timer → Option R) (h : 0 ≤ a ∧ 0 ≤ b ∧ 1 ≤ n ∧ n ≤ 65536) :
    f16 N a b n X k = k 0 (insT ⟨a, b⟩ n (X.filter fun e => !isF a b e)) := by
  obtain ⟨h1, h2, h3, h4⟩ := h
  have e1 : decide (a < 0) = false := by simpa using h1
  have e2 : decide (b < 0) = false := by simpa using h2
  have e3 : decide (n < 1) = false := by simp; omega
  have e4 : decide (n > 65536) = false := by simp; omega
  have hle : (X.filter fun e => !isF a b e).length ≤ X.length := List.length_filter_le _ _
  unfold f16
  simp only [e1, e2, e3, e4, ifB_ff, Bool.false_eq_true, if_false, Option.bind_some]
  rw [f18_eq N a b X hN hl]
  have := f16_loop N a b n (X.filter fun e => !isF a b e) (by omega) k N 0 false [] (by omega) (by omega) (by simp)
  rw [List.drop_zero, if_neg (by simp), List.nil_append] at this
  exact this
theorem f16_bad {R : Type} (N : Nat) (a b n : Int) (X : List Timer) (k : Int → List Timer → Option R) (h : ¬ (0 ≤ a ∧ 0 ≤ b ∧ 1 ≤ n ∧ n ≤ 65536)) : f16 N a b n X k = k 1 X := by
  unfold f16
  simp only [ifB_ff, decide_eq_true_eq]
  by_cases e1 : a < 0
  · simp [e1]
  · by_cases e2 : b < 0
    · simp [e1, e2]
    · by_cases e3 : n < 1
      · simp [e1, e2, e3]
      · have e4 : n > 65536 := by omega
        simp [e1, e2, e3, e4]
theorem not_isF {a b : Int} (e : Timer) : (!isF a b e) = decide (e.f ≠ ⟨a, b⟩) := by
  rw [isF_iff]; simp
theorem Rl.arm {L : ML} {X : List Timer} (h : Rl L X) (a b n : Int) (cl : Nat) (hn : 1 ≤ n ∧ n ≤ 65536) : Rl (updM (keyOf ⟨a, b⟩) n cl L) (insT ⟨a, b⟩ n (X.filter fun e => !isF a b e)) := by
  refine ⟨(V_upd h.wf _ n cl).2, ?_, ins_srt _ _ _ (h.srt.filter _) fun e he => ?_, fun e he => ?_⟩
  · refine (V_upd h.wf ⟨a, b⟩ n cl).1.trans ?_
    have e1 : cont (X.filter fun e => !isF a b e) = (cont X).filter fun p => decide (p.1 ≠ ⟨a, b⟩) := cont_filter X _ _ fun e => not_isF e
    refine List.Perm.trans ?_ (cont_ins ⟨a, b⟩ n _).symm
    rw [e1]
    exact ((h.perm.filter _).append_right _).trans (List.perm_append_comm (l₂ := ([((⟨a, b⟩ : Fired), n)] : Cont)))
  · have := (List.mem_filter.1 he).2
    rw [not_isF] at this
    simpa using this
  · rcases mem_ins he with rfl | he
    · exact hn
    · exact h.vals e (List.mem_filter.1 he).1
theorem Rl.sub {L' L : ML} {X : List Timer} (h : Rl L X) (p : Timer → Bool) (wf : WF L') (hp : (V L').Perm (cont (X.filter p))) : Rl L' (X.filter p) :=
  ⟨wf, hp, h.srt.filter _, fun e he => h.vals e (List.mem_filter.1 he).1⟩
theorem Rl.clear {L : ML} {X : List Timer} (h : Rl L X) (g : Int) : Rl (clr g L) (X.filter fun e => e.f.inst != g) := by
  refine h.sub _ (V_clr h.wf g).2 ?_
  rw [(V_clr h.wf g).1, cont_filter X (fun e => e.f.inst != g) (fun p => !(p.1.inst == g)) fun e => rfl]
  exact h.perm.filter _
theorem lk_none {c : Cont} {f : Fired} (h : lk f c = none) : c.filter (fun p => decide (p.1 ≠ f)) = c := by
  refine List.filter_eq_self.2 fun p hp => ?_
  unfold lk at h
  rw [Option.map_eq_none_iff, List.find?_eq_none] at h
  simpa using h p hp
theorem Rl.cancel {R : Type} {L : ML} {X : List Timer} (h : Rl L X) (N : Nat) (a b : Int) (ex : Bool) (cl : Nat) (k : Bool → ML → Option R) :
    ∃ L', f17 N a b L ex cl k = k (decide (((((X.filter fun e => !isF a b e).length : Nat) : Int)) < ((X.length : Nat) : Int))) L' ∧ Rl L' (X.filter fun e => !isF a b e) := by
  have hc : cont (X.filter fun e => !isF a b e) = (cont X).filter fun p => decide (p.1 ≠ ⟨a, b⟩) := cont_filter X _ _ fun e => not_isF e
  have hf : findM [Sc.int .i64 a, Sc.int .i64 b] L = lk ⟨a, b⟩ (cont X) := h.find ⟨a, b⟩
  have hlen : (X.filter fun e => !isF a b e).length = ((cont X).filter fun p => decide (p.1 ≠ (⟨a, b⟩ : Fired))).length := by rw [← hc]; unfold cont; simp
  have hlx : X.length = (cont X).length := by unfold cont; simp
  cases hl : lk ⟨a, b⟩ (cont X) with
  | none =>
    refine ⟨L, ?_, h.sub _ h.wf ?_⟩
    · have hd : decide (((((X.filter fun e => !isF a b e).length : Nat) : Int)) < ((X.length : Nat) : Int)) = false := by
        rw [hlen, lk_none hl, ← hlx]; simp
      rw [hd]
      unfold f17
      rw [hf, hl]; rfl
    · rw [hc, lk_none hl]; exact h.perm
  | some v =>
    refine ⟨delM (keyOf ⟨a, b⟩) L, ?_, h.sub _ (V_del h.wf _).2 ?_⟩
    · have hlt : ((cont X).filter fun p => decide (p.1 ≠ (⟨a, b⟩ : Fired))).length < (cont X).length := by
        refine List.length_filter_lt_length_iff_exists.2 ?_
        have hk : ((cont X).map (·.1)).Nodup := (h.perm.map _).nodup_iff.1 (V_keys h.wf)
        exact ⟨_, (lk_mem hk).1 hl, by simp⟩
      have hd : decide (((((X.filter fun e => !isF a b e).length : Nat) : Int)) < ((X.length : Nat) : Int)) = true := by
        rw [hlen, hlx, decide_eq_true_eq]
        exact Int.ofNat_lt.2 hlt
      rw [hd]
      unfold f17
      rw [hf, hl]; rfl
    · rw [(V_del h.wf _).1, hc]; exact h.perm.filter _
theorem Rl.tick {L : ML} {X : List Timer} (h : Rl L X) : tickF L = (X.filter fun e => e.left == 1).map (·.f) ∧ Rl (tickL L) ((X.filter fun e => !(e.left == 1)).map decT) := by
  obtain ⟨t1, t2, t3⟩ := V_tick h.wf
  refine ⟨?_, t3, ?_, ?_, fun e he => ?_⟩
  · rw [t2]
    have hc : ((cont X).filter fun p => p.2 == 1).map (·.1) = (X.filter fun e => e.left == 1).map (·.f) := by
      rw [← cont_filter X (fun e => e.left == 1) (fun p => p.2 == 1) fun e => rfl]
      unfold cont
      rw [List.map_map]; rfl
    refine srt_of ?_ ?_
    · rw [← hc]; exact (h.perm.filter _).map _
    · rw [List.pairwise_map]
      refine (h.srt.filter _).imp fun {x y} hlt => ?_
      have : ltF y.f x.f = false := by
        rw [ltF_false]; rw [ltF_iff] at hlt; omega
      rw [this]; rfl
  · rw [t1]
    have hc : cont ((X.filter fun e => !(e.left == 1)).map decT) = ckC (cont X) := by
      unfold ckC
      rw [← cont_filter X (fun e => !(e.left == 1)) (fun p => !(p.2 == 1)) fun e => rfl]
      unfold cont
      rw [List.map_map, List.map_map]; rfl
    rw [hc]
    exact ckC_perm h.perm
  · rw [List.pairwise_map]
    exact h.srt.filter _
  · obtain ⟨x, hx, rfl⟩ := List.mem_map.1 he
    obtain ⟨h1, h2⟩ := List.mem_filter.1 hx
    have := h.vals x h1
    have h3 : x.left ≠ 1 := by simpa using h2
    show 1 ≤ dec1 x.left ∧ dec1 x.left ≤ 65536
    rw [dec1_eq (by omega) (by omega)]
    omega
theorem f6_loop {R : Type} {l : List Step} (hll : l.length ≤ 200) (kp0 : Bool → Option R) (kp1 : Option R) :
    ∀ (m i : Nat) (L : ML) (e : Bool) (cl : Nat) (X : List Timer), i ≤ l.length → l.length < m + i → Rl L X → X.length ≤ i → f6_l0 2000 l kp0 kp1 m i L e cl X = kp1 := by
  intro m
  induction m with
  | zero => intro i L e cl X h1 h2; omega
  | succ m ih =>
    intro i L e cl X h1 h2 hr hX
    show f6_l0_b 2000 l kp0 kp1 (f6_l0 2000 l kp0 kp1 m) i L e cl X = kp1
    unfold f6_l0_b
    by_cases hi : i < l.length
    · rw [if_pos (by simpa using hi), at_get l i hi]
      simp only [Option.bind_some]
      rw [wsucc i (by omega)]
      generalize l[i] = s
      have hq : ∃ q, (ifB (decide (s.what ≥ 0)) true (some (decide (s.what ≤ 3))) (some false)) = some q := by
        rw [ifB_tf]; split <;> exact ⟨_, rfl⟩
      obtain ⟨q, hq⟩ := hq
      rw [hq]
      simp only [Option.bind_some]
      have fle : ∀ p : Timer → Bool, (X.filter p).length ≤ X.length := fun p => List.length_filter_le _ _
      cases q with
      | true =>
        rw [if_pos rfl]
        by_cases hg : 0 ≤ s.f.inst ∧ 0 ≤ s.f.timer ∧ 1 ≤ s.n ∧ s.n ≤ 65536
        · have hr' := hr.arm s.f.inst s.f.timer s.n cl ⟨hg.2.2.1, hg.2.2.2⟩
          have hl' := ins_len ⟨s.f.inst, s.f.timer⟩ s.n (X.filter fun e => !isF s.f.inst s.f.timer e)
          have := fle fun e => !isF s.f.inst s.f.timer e
          rw [f9_ok _ _ _ _ _ _ _ _ hg, f16_ok _ _ _ _ _ (by omega) (by omega) _ hg]
          refine (tailE 2000 s.f.inst s.f.timer _ _ hr' (by omega) (by omega) _ _ _).trans ?_
          rw [if_pos (by simp)]
          exact ih (i + 1) _ _ _ _ (by omega) (by omega) hr' (by omega)
        · rw [f9_bad _ _ _ _ _ _ _ _ hg, f16_bad _ _ _ _ _ _ hg]
          refine (tailE 2000 s.f.inst s.f.timer _ _ hr (by omega) (by omega) _ _ _).trans ?_
          rw [if_pos (by simp)]
          exact ih (i + 1) _ _ _ _ (by omega) (by omega) hr (by omega)
      | false =>
        rw [if_neg (by simp)]
        by_cases h4 : (s.what == 4) = true
        · rw [if_pos h4]
          have := fle fun e => !isF s.f.inst s.f.timer e
          obtain ⟨L', e1, hr'⟩ := hr.cancel 2000 s.f.inst s.f.timer e cl (fun (r28 : Bool) (r29 : ML) =>
            f18 2000 s.f.inst s.f.timer X (fun (r30 : Bool) (r31 : List Timer) =>
            f22 2000 s.f.inst s.f.timer r31 (fun (r32 : Int) (r33 : Bool) =>
            next23 r29 (fun (r34 : Int) (r35 : Bool) =>
            f24 2000 r31 (fun (r36 : Int) (r37 : Bool) =>
            (ifB (!(r28 == r30)) false (some (((findM [.int .i64 s.f.inst, .int .i64 s.f.timer] r29).getD 0) != r32)) (some true)).bind fun c38 =>
            (ifB c38 false (some (!(((findM [.int .i64 s.f.inst, .int .i64 s.f.timer] r29).isSome) == r33))) (some true)).bind fun c39 =>
            (ifB c39 false (some (r34 != r36)) (some true)).bind fun c40 =>
            (ifB c40 false (some (!(r35 == r37))) (some true)).bind fun c41 =>
            (ifB c41 false (some (((r29.length : Nat) : Int) != ((r31.length : Nat) : Int))) (some true)).bind fun c42 =>
            if c42 = true then
              (kp0 false)
            else
              (f6_l0 2000 l kp0 kp1 m ((i + 1 : Nat) : Int) r29 false cl r31))))))
          rw [e1, f18_eq _ _ _ _ (by omega) (by omega)]
          refine (tailE 2000 s.f.inst s.f.timer _ _ hr' (by omega) (by omega) _ _ _).trans ?_
          rw [if_pos (by simp)]
          exact ih (i + 1) _ _ _ _ (by omega) (by omega) hr' (by omega)
        · rw [if_neg h4]
          by_cases h5 : (s.what == 5) = true
          · rw [if_pos h5, f19_eq _ _ _ (by omega) (by omega)]
            have hr' := hr.clear s.f.inst
            have := fle fun e => e.f.inst != s.f.inst
            refine (tailE 2000 s.f.inst s.f.timer _ _ hr' (by omega) (by omega) _ _ _).trans ?_
            rw [if_pos (by rw [hr.len, hr'.len]; simp)]
            exact ih (i + 1) _ _ _ _ (by omega) (by omega) hr' (by omega)
          · rw [if_neg h5, if_pos (by rw [hr.len]; omega), f20_eq _ _ (by omega) (by omega)]
            obtain ⟨t1, hr'⟩ := hr.tick
            have l1 := fle fun e => e.left == 1
            have l2 := fle fun e => !(e.left == 1)
            rw [t1, f15_refl _ _ (by rw [List.length_map]; omega) (by rw [List.length_map]; omega)]
            refine (tailE 2000 s.f.inst s.f.timer _ _ hr' (by rw [List.length_map]; omega) (by rw [List.length_map]; omega) true _ _).trans ?_
            rw [if_pos rfl]
            exact ih (i + 1) _ _ _ _ (by omega) (by omega) hr' (by rw [List.length_map]; omega)
    · rw [if_neg (by simpa using hi)]
theorem f6_true {R : Type} (l : List Step) (k0 : Bool → Option R) : f6 2000 l k0 = k0 true := by
  unfold f6
  by_cases h0 : l.length > 200
  · rw [if_pos (by simp; omega), known_true]; rfl
  · rw [if_neg (by simp; omega)]
    refine (f6_loop (by omega) _ _ 2000 0 [] true 0 [] (by omega) (by omega) ⟨WF.nil, List.Perm.refl _, List.Pairwise.nil, by simp⟩ (by simp)).trans ?_
    rw [known_true]
theorem wheelPlays_ok {on : Nat} (l : List Step) (h0 : l.length ≤ maxLen ∧ ∀ x ∈ l, all2 (okN (E noCalls) kinds on) (kinds K.step) (enc K.step x)) :
    CallOK (E noCalls) 6 [.tree (S := S) K.step l] [] ⟨.bool true, some [], []⟩ := by
  obtain ⟨res, e, h⟩ := f6_call 2000 l (R := Res S) some ⟨.bool true, some [], []⟩ ((f6_run _ _ _).trans (f6_true _ _))
  cases e
  exact h
end Wh
