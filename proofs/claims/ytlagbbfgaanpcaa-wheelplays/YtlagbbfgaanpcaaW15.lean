/- W15: a part of the proof of WheelPlays: lemmas on the evaluator and on the functions that the law reaches. -/
import Derived.Test.YtlagbbfgaanpcaaW13
set_option maxRecDepth 100000
set_option linter.unusedVariables false
namespace Wh
open Go TE Go.Proofs
def updK (q : List Sc) (ks : List (List Sc)) : List (List Sc) := if q ∈ ks then ks else ks ++ [q]
theorem updM_keys {α : Type} (q : List Sc) (y : α) (cl : Nat) (L : MapL α) : (updM q y cl L).map (·.1) = updK q (L.map (·.1)) := by
  induction L with
  | nil => rfl
  | cons x r ih =>
    simp only [updM, List.map_cons]
    by_cases h : x.1 = q
    · rw [if_pos h]
      unfold updK
      rw [if_pos (by simp [h]), List.map_cons, h]
    · rw [if_neg h, List.map_cons, ih]
      unfold updK
      by_cases h2 : q ∈ r.map (·.1)
      · rw [if_pos h2, if_pos (by simp [h2])]
      · rw [if_neg h2, if_neg (by simp only [List.mem_cons, not_or]; exact ⟨fun e => h e.symm, h2⟩), List.cons_append]
theorem updM_vals {α : Type} {q : List Sc} {y : α} {cl : Nat} {L : MapL α} (h : ∀ t ∈ L, t.2.1 = y) : ∀ t ∈ updM q y cl L, t.2.1 = y := by
  induction L with
  | nil => intro t ht; simp [updM] at ht; rw [ht]
  | cons x r ih =>
    intro t ht
    simp only [updM] at ht
    split at ht
    · rcases List.mem_cons.1 ht with rfl | ht
      · rfl
      · exact h t (List.mem_cons_of_mem _ ht)
    · rcases List.mem_cons.1 ht with rfl | ht
      · exact h _ (by simp)
      · exact ih (fun t ht => h t (List.mem_cons_of_mem _ ht)) t ht
theorem updK_len (q : List Sc) (ks : List (List Sc)) : (updK q ks).length ≤ ks.length + 1 := by
  unfold updK; split <;> simp
theorem f13_eq {R : Type} (N : Nat) (a b c d : Int) (k : Bool → Option R) : f13 N a b c d k = k (ltF ⟨a, b⟩ ⟨c, d⟩) := by
  unfold f13
  have key : ltF ⟨a, b⟩ ⟨c, d⟩ = (decide (a < c) || (a == c && decide (b < d))) := by
    rw [Bool.eq_iff_iff, ltF_iff]; simp
  rw [key]
  simp only [ifB_ff, ifB_tf]
  by_cases h1 : a < c
  · simp [h1]
  · by_cases h2 : a = c
    · simp [h2]
    · have h3 : (a == c) = false := by simpa using h2
      simp [h1, h3]
structure Both (w : Int) (L : ML) (Sn : MapL Bool) : Prop where
  wf : WF L
  vals : ∀ t ∈ L, t.2.1 = w
  keys : Sn.map (·.1) = L.map (·.1)
  tru : ∀ t ∈ Sn, t.2.1 = true
theorem Both.upd {w : Int} {L : ML} {Sn : MapL Bool} (h : Both w L Sn) (f : Fired) (c1 c2 : Nat) : Both w (updM (keyOf f) w c1 L) (updM (keyOf f) true c2 Sn) :=
  ⟨(V_upd h.wf f w c1).2, updM_vals h.vals, by rw [updM_keys, updM_keys, h.keys], updM_vals h.tru⟩
def firedAt (x : Int) : Fired := ⟨Int.tmod (IntKind.wrap .i64 x) 12, Int.tmod (IntKind.wrap .i64 (Int.tdiv (IntKind.wrap .i64 x) 12)) 6⟩
theorem firedAt_pos {x : Int} (h : 0 ≤ x ∧ x ≤ 65535) : 0 ≤ (firedAt x).inst ∧ 0 ≤ (firedAt x).timer := by
  have e1 : IntKind.wrap .i64 x = x := wr _ (by omega) (by omega)
  have e2 : Int.tdiv x 12 = x / 12 := Int.tdiv_eq_ediv_of_nonneg h.1
  have e3 : IntKind.wrap .i64 (x / 12) = x / 12 := wr _ (by omega) (by omega)
  unfold firedAt
  rw [e1, e2, e3, tmod_pos h.1, tmod_pos (by omega)]
  refine ⟨?_, ?_⟩
  · show 0 ≤ x % 12; omega
  · show 0 ≤ x / 12 % 6; omega
theorem at_get {α : Type} (l : List α) (i : Nat) (h : i < l.length) : at? l (i : Int) = some l[i] := by
  unfold at?
  rw [if_neg (by omega), Int.toNat_natCast, List.getElem?_eq_getElem h]
theorem f4_loop0 {R : Type} {N : Nat} {l : List Int} {n w : Int} {kp0 : Bool → Option R} {kp1 : ML → Nat → MapL Bool → Nat → Option R} {r : Option R} (hl : ∀ x ∈ l, 0 ≤ x ∧ x ≤ 65535) (hll : l.length ≤ 200)
    (hw : IntKind.wrap .i64 (1 + (Int.tmod (IntKind.wrap .i64 n) 5)) = w) (hw2 : 1 ≤ w ∧ w ≤ 65536) (h : ∀ L c1 Sn c2, Both w L Sn → L.length ≤ 200 → kp1 L c1 Sn c2 = r) :
    ∀ (m i : Nat) (L : ML) (c1 : Nat) (Sn : MapL Bool) (c2 : Nat), i ≤ l.length → l.length < m + i → Both w L Sn → L.length ≤ i → f4_l0 N l n true true kp0 kp1 m i L c1 Sn c2 = r := by
  intro m
  induction m with
  | zero => intro i L c1 Sn c2 h1 h2; omega
  | succ m ih =>
    intro i L c1 Sn c2 h1 h2 hb hL
    show f4_l0_b N l n true true kp0 kp1 (f4_l0 N l n true true kp0 kp1 m) i L c1 Sn c2 = r
    unfold f4_l0_b
    by_cases hi : i < l.length
    · rw [if_pos (by simpa using hi), at_get l i hi]
      simp only [Option.bind_some]
      have hp := firedAt_pos (hl l[i] (List.getElem_mem hi))
      rw [hw]
      refine (f9_ok N (firedAt l[i]).inst (firedAt l[i]).timer w L true c1 _ ⟨hp.1, hp.2, hw2.1, hw2.2⟩).trans ?_
      rw [if_neg (by simp), wr _ (by omega) (by omega), show ((i : Int) + 1) = ((i + 1 : Nat) : Int) by omega]
      refine ih (i + 1) _ _ _ _ (by omega) (by omega) (hb.upd (firedAt l[i]) c1 c2) ?_
      have h3 := updK_len (keyOf (firedAt l[i])) (L.map (·.1))
      rw [← updM_keys _ w c1 L, List.length_map, List.length_map] at h3
      exact Nat.le_trans h3 (by omega)
    · rw [if_neg (by simpa using hi)]
      exact h _ _ _ _ hb (by omega)
theorem tick_all {v : Int} {L : ML} (h : ∀ t ∈ L, t.2.1 = v) (hv : v ≠ 1) (h1 : 0 ≤ v) (h2 : v ≤ 100000) : tickF L = [] ∧ tickL L = L.map tk ∧ ∀ t ∈ tickL L, t.2.1 = v - 1 := by
  have e1 : L.filter (fun t => t.2.1 == 1) = [] := List.filter_eq_nil_iff.2 fun t ht => by rw [h t ht]; simpa using hv
  have e2 : L.filter (fun t => !(t.2.1 == 1)) = L := List.filter_eq_self.2 fun t ht => by rw [h t ht]; simpa using hv
  refine ⟨?_, ?_, fun t ht => ?_⟩
  · unfold tickF; rw [e1]; exact srt_nil
  · unfold tickL; rw [e2]
  · unfold tickL at ht
    rw [e2] at ht
    obtain ⟨x, hx, rfl⟩ := List.mem_map.1 ht
    unfold tk
    rw [if_neg (by rw [h x hx]; simpa using hv)]
    show dec1 x.2.1 = v - 1
    rw [h x hx, dec1_eq h1 h2]
theorem f4_loop2 {R : Type} {N : Nat} {n j w : Int} {s1 s2 : Nat} {Sn : MapL Bool} {kp0 : Bool → Option R} {kp1 : ML → Bool → Option R} {r : Option R} (hj : Int.tmod (IntKind.wrap .i64 n) 5 = j) (hj2 : 0 ≤ j ∧ j ≤ 4) (hw : w = 1 + j)
    (h : ∀ L e, Both 1 L Sn → L.length ≤ 200 → kp1 L e = r) :
    ∀ (m i : Nat) (L : ML) (e : Bool), (i : Int) ≤ j → j < m + i → Both (w - i) L Sn → L.length ≤ 200 → f4_l2 N n s1 Sn true s2 kp0 kp1 m i L e = r := by
  intro m
  induction m with
  | zero => intro i L e h1 h2; omega
  | succ m ih =>
    intro i L e h1 h2 hb hL
    show f4_l2_b N n s1 Sn true s2 kp0 kp1 (f4_l2 N n s1 Sn true s2 kp0 kp1 m) i L e = r
    unfold f4_l2_b
    rw [hj]
    by_cases hi : (i : Int) < j
    · obtain ⟨t1, t2, t3⟩ := tick_all hb.vals (by omega) (by omega) (by omega)
      rw [if_pos (by simpa using hi), if_pos (by omega), t1, if_neg (by simp), wr _ (by omega) (by omega), show ((i : Int) + 1) = ((i + 1 : Nat) : Int) by omega]
      refine ih (i + 1) _ _ (by omega) (by omega) ⟨(V_tick hb.wf).2.2, ?_, ?_, hb.tru⟩ (Nat.le_trans (tickL_len L) hL)
      · intro t ht
        rw [t3 t ht]; omega
      · rw [hb.keys, t2, List.map_map]; rfl
    · have : (i : Int) = j := by omega
      rw [if_neg (by simpa using hi)]
      rw [this, hw, show 1 + j - j = 1 by omega] at hb
      exact h _ _ hb hL
theorem f4_loop4 {R : Type} {N : Nat} {L : ML} {Sn : MapL Bool} {s : Nat} {kp0 : Bool → Option R} {kp1 : Option R} (hb : Both 1 L Sn) (hL : L.length ≤ 200) :
    ∀ (m i : Nat), i ≤ (tickF L).length → (tickF L).length < m + i → f4_l4 N (tickF L) Sn true s kp0 kp1 m i = kp1 := by
  obtain ⟨_, hF, _⟩ := V_tick hb.wf
  have hall : ((V L).filter fun p => p.2 == 1) = V L := List.filter_eq_self.2 fun p hp => by
    obtain ⟨t, ht, rfl⟩ := List.mem_map.1 hp
    rw [hb.vals t ht]; rfl
  rw [hall] at hF
  have hperm : (tickF L).Perm ((V L).map (·.1)) := by rw [hF]; exact srt_perm_self _
  have hnd : (tickF L).Nodup := hperm.nodup_iff.2 (V_keys hb.wf)
  have hsort := srt_sorted ((V L).map (·.1))
  rw [← hF] at hsort
  have hlen : (tickF L).length ≤ 200 := by rw [hperm.length_eq, List.length_map, V_len]; exact hL
  intro m
  induction m with
  | zero => intro i h1 h2; omega
  | succ m ih =>
    intro i h1 h2
    show f4_l4_b N (tickF L) Sn true s kp0 kp1 (f4_l4 N (tickF L) Sn true s kp0 kp1 m) i = kp1
    unfold f4_l4_b
    by_cases hi : i < (tickF L).length
    · rw [if_pos (by simpa using hi), at_get _ i hi]
      simp only [Option.bind_some]
      -- it was armed
      have hmem : (tickF L)[i] ∈ (V L).map (·.1) := hperm.subset (List.getElem_mem hi)
      obtain ⟨p, hp, ep⟩ := List.mem_map.1 hmem
      have hk : keyOf (tickF L)[i] ∈ L.map (·.1) := (mem_keys hb.wf _).2 ⟨p.2, by rw [← ep]; exact hp⟩
      have hf : (findM [Sc.int .i64 (tickF L)[i].inst, Sc.int .i64 (tickF L)[i].timer] Sn) = some true := by
        have h3 : (findM (keyOf (tickF L)[i]) Sn).isSome = true := findM_some.2 (by rw [hb.keys]; exact hk)
        obtain ⟨b, hb'⟩ := Option.isSome_iff_exists.1 h3
        show findM (keyOf (tickF L)[i]) Sn = some true
        rw [hb']
        congr 1
        have : ∀ (X : MapL Bool), (∀ t ∈ X, t.2.1 = true) → findM (keyOf (tickF L)[i]) X = some b → b = true := by
          intro X
          induction X with
          | nil => intro _ h; simp [findM] at h
          | cons x r ih2 =>
            intro hX h
            simp only [findM] at h
            split at h
            · cases h; exact hX x (by simp)
            · exact ih2 (fun t ht => hX t (List.mem_cons_of_mem _ ht)) h
        exact this Sn hb.tru hb'
      rw [hf]
      have hless : (ifB (decide ((i : Int) > 0)) true ((at? (tickF L) (IntKind.wrap .i64 ((i : Int) - 1))).bind fun e40 => (at? (tickF L) (i : Int)).bind fun e41 => f13 N e40.inst e40.timer e41.inst e41.timer (fun (r42 : Bool) => some (!r42))) (some false)) = some false := by
        rw [ifB_tf]
        by_cases h0 : (i : Int) > 0
        · rw [if_pos (by simpa using h0), wr _ (by omega) (by omega), show ((i : Int) - 1) = ((i - 1 : Nat) : Int) by omega, at_get _ (i - 1) (by omega), at_get _ i hi]
          simp only [Option.bind_some]
          rw [f13_eq]
          have hle := (List.pairwise_iff_getElem.1 hsort) (i - 1) i (by omega) hi (by omega)
          have hne := (List.pairwise_iff_getElem.1 hnd) (i - 1) i (by omega) hi (by omega)
          simp only [Bool.not_eq_true'] at hle
          have : ltF (tickF L)[i - 1] (tickF L)[i] = true := by
            cases hlt : ltF (tickF L)[i - 1] (tickF L)[i] with
            | true => rfl
            | false => exact absurd (ltF_tie _ _ hlt hle) hne
          show some (!(ltF (tickF L)[i - 1] (tickF L)[i])) = some false
          rw [this]; rfl
        · rw [if_neg (by simpa using h0)]
      have hless' := hless
      rw [at_get _ i hi] at hless'
      simp only [Option.bind_some] at hless'
      rw [hless']
      simp only [Option.getD_some, Bool.not_true, ifB_ff, Bool.false_eq_true, if_false, Option.bind_some]
      rw [wr _ (by omega) (by omega), show ((i : Int) + 1) = ((i + 1 : Nat) : Int) by omega]
      exact ih (i + 1) (by omega) (by omega)
    · rw [if_neg (by simpa using hi)]
theorem u16_rng {n : Int} (h : (Lit.int .u16 n).wf = true) : 0 ≤ n ∧ n ≤ 65535 := by
  simpa [Lit.wf, IntKind.min, IntKind.max, IntKind.bits, IntKind.signed] using h
theorem f4_true {R : Type} (l : List Int) (n : Int) (hl : ∀ x ∈ l, 0 ≤ x ∧ x ≤ 65535) (hn : 0 ≤ n ∧ n ≤ 255) (k0 : Bool → Option R) : f4 300 l n k0 = k0 true := by
  unfold f4
  by_cases h0 : l.length > 200
  · rw [if_pos (by simp; omega), known_true]; rfl
  · rw [if_neg (by simp; omega)]
    obtain ⟨j, hj⟩ : ∃ j, Int.tmod (IntKind.wrap .i64 n) 5 = j := ⟨_, rfl⟩
    have hj2 : 0 ≤ j ∧ j ≤ 4 := by
      rw [wr n (by omega) (by omega), tmod_pos hn.1] at hj; omega
    have hw : IntKind.wrap .i64 (1 + (Int.tmod (IntKind.wrap .i64 n) 5)) = 1 + j := by rw [hj]; exact wr _ (by omega) (by omega)
    refine f4_loop0 hl (by omega) hw ⟨by omega, by omega⟩ (fun L c1 Sn c2 hb hL => ?_) 300 0 [] 0 [] 0 (by omega) (by omega) ⟨WF.nil, by simp, rfl, by simp⟩ (by simp)
    refine f4_loop2 (w := 1 + j) hj hj2 rfl (fun L2 e hb2 hL2 => ?_) 300 0 L true (by omega) (by omega) (by rw [show 1 + j - ((0 : Nat) : Int) = 1 + j by omega]; exact hb) hL
    rw [if_pos (by omega)]
    have hFl : (tickF L2).length = L2.length := by
      obtain ⟨_, hF, _⟩ := V_tick hb2.wf
      have hall : ((V L2).filter fun p => p.2 == 1) = V L2 := List.filter_eq_self.2 fun p hp => by
        obtain ⟨t, ht, rfl⟩ := List.mem_map.1 hp
        rw [hb2.vals t ht]; rfl
      rw [hF, hall, srt_len, List.length_map, V_len]
    refine (f4_loop4 (N := 300) hb2 hL2 300 0 (by omega) (by omega)).trans ?_
    have hs : Sn.length = L2.length := by
      have := congrArg List.length hb2.keys
      simpa using this
    rw [known_true, hFl, hs]
    simp [ifB_tf]
theorem wheelOrder_ok {on : Nat} (l : List Int) (n : Int) (h0 : l.length ≤ maxLen ∧ ∀ x ∈ l, all2 (okN (E noCalls) kinds on) (kinds K.u16) (enc K.u16 x)) (h1 : (Lit.int .u8 n).wf = true) :
    CallOK (E noCalls) 4 [.tree (S := S) K.u16 l, .int .u8 n] [] ⟨.bool true, some [], []⟩ := by
  have hl : ∀ x ∈ l, 0 ≤ x ∧ x ≤ 65535 := by
    intro x hx
    obtain ⟨m, e, hm⟩ := okN_int (h0.2 x hx).1
    cases e
    exact u16_rng hm
  obtain ⟨res, e, h⟩ := f4_call 300 l n (R := Res S) some ⟨.bool true, some [], []⟩ ((f4_run _ _ _ _).trans (f4_true _ _ hl (u8_rng h1) _))
  cases e
  exact h
end Wh
