/- W17: a part of the proof of WheelPlays: lemmas on the evaluator and on the functions that the law reaches. -/
import Derived.Test.YtlagbbfgaanpcaaW15
set_option maxRecDepth 100000
set_option linter.unusedVariables false
namespace Wh
open Go TE Go.Proofs
theorem wsucc (i : Nat) (h : i < 1000000) : IntKind.wrap .i64 ((i : Int) + 1) = ((i + 1 : Nat) : Int) := (wr _ (by omega) (by omega)).trans (by omega)
theorem f15_refl {R : Type} (N : Nat) (x : List Fired) (hx : x.length < N) (hx2 : x.length ≤ 100000) (k0 : Bool → Option R) : f15 N x x k0 = k0 true := by
  unfold f15
  rw [if_neg (by simp)]
  have key : ∀ (n i : Nat), i ≤ x.length → x.length < n + i → f15_l0 N x x (fun (y6 : Bool) => k0 y6) (k0 true) n i = k0 true := by
    intro n
    induction n with
    | zero => intro i h1 h2; omega
    | succ n ih =>
      intro i h1 h2
      show f15_l0_b N x x (fun (y6 : Bool) => k0 y6) (k0 true) (f15_l0 N x x (fun (y6 : Bool) => k0 y6) (k0 true) n) i = k0 true
      unfold f15_l0_b
      by_cases hi : i < x.length
      · rw [if_pos (by simpa using hi), at_get x i hi]
        simp only [Option.bind_some]
        rw [if_neg (by simp), wr _ (by omega) (by omega), show ((i : Int) + 1) = ((i + 1 : Nat) : Int) by omega]
        exact ih (i + 1) (by omega) (by omega)
      · rw [if_neg (by simpa using hi)]
  exact key N 0 (by omega) (by omega)
theorem clr_clr (i : Int) (L : ML) : clr i (clr i L) = clr i L := by
  unfold clr
  rw [List.filter_filter]
  congr 1
  funext t
  simp
theorem clr_len (i : Int) (L : ML) : (clr i L).length ≤ L.length := List.length_filter_le _ _
structure Part (g : Int) (A B : ML) : Prop where
  wa : WF A
  wb : WF B
  same : ((V A).filter fun p => !(p.1.inst == g)).Perm (V B)
  vals : ∀ p ∈ V A, 1 ≤ p.2 ∧ p.2 ≤ 9
theorem upd_vals {A : ML} (h : WF A) {f : Fired} {k : Int} {cl : Nat} {lo hi : Int} (hk : lo ≤ k ∧ k ≤ hi) (hv : ∀ p ∈ V A, lo ≤ p.2 ∧ p.2 ≤ hi) : ∀ p ∈ V (updM (keyOf f) k cl A), lo ≤ p.2 ∧ p.2 ≤ hi := by
  intro p hp
  have := (V_upd h f k cl).1.subset hp
  rcases List.mem_append.1 this with h1 | h1
  · exact hv p (List.mem_filter.1 h1).1
  · simp at h1; subst h1; exact hk
theorem Part.other {g : Int} {A B : ML} (h : Part g A B) {f : Fired} {k : Int} (hf : f.inst ≠ g) (hk : 1 ≤ k ∧ k ≤ 9) (c1 c2 : Nat) : Part g (updM (keyOf f) k c1 A) (updM (keyOf f) k c2 B) := by
  refine ⟨(V_upd h.wa f k c1).2, (V_upd h.wb f k c2).2, ?_, upd_vals h.wa hk h.vals⟩
  refine ((V_upd h.wa f k c1).1.filter _).trans ?_
  rw [List.filter_append]
  have e1 : ([(f, k)] : Cont).filter (fun p => !(p.1.inst == g)) = [(f, k)] := by simp [hf]
  rw [e1, List.filter_filter]
  have e2 : ((V A).filter fun a => !(a.1.inst == g) && decide (a.1 ≠ f)) = ((V A).filter fun p => !(p.1.inst == g)).filter fun p => decide (p.1 ≠ f) := by
    rw [List.filter_filter]
    congr 1; funext a
    rw [Bool.and_comm]
  rw [e2]
  exact ((h.same.filter _).append_right _).trans (V_upd h.wb f k c2).1.symm
theorem Part.own {g : Int} {A B : ML} (h : Part g A B) {f : Fired} {k : Int} (hf : f.inst = g) (hk : 1 ≤ k ∧ k ≤ 9) (c1 : Nat) : Part g (updM (keyOf f) k c1 A) B := by
  refine ⟨(V_upd h.wa f k c1).2, h.wb, ?_, upd_vals h.wa hk h.vals⟩
  refine ((V_upd h.wa f k c1).1.filter _).trans ?_
  rw [List.filter_append]
  have e1 : ([(f, k)] : Cont).filter (fun p => !(p.1.inst == g)) = [] := by simp [hf]
  rw [e1, List.append_nil, List.filter_filter]
  have e2 : ((V A).filter fun a => !(a.1.inst == g) && decide (a.1 ≠ f)) = ((V A).filter fun p => !(p.1.inst == g)) := by
    refine List.filter_congr fun a _ => ?_
    by_cases ha : a.1.inst = g
    · simp [ha]
    · have : a.1 ≠ f := fun e => ha (by rw [e, hf])
      simp [this]
  rw [e2]
  exact h.same
theorem upd_len {α : Type} (q : List Sc) (y : α) (cl : Nat) (L : MapL α) : (updM q y cl L).length ≤ L.length + 1 := by
  have h3 := updK_len q (L.map (·.1))
  rw [← updM_keys q y cl L, List.length_map, List.length_map] at h3
  exact h3
def firedAt4 (x : Int) : Fired := ⟨Int.tmod (IntKind.wrap .i64 x) 4, Int.tmod (IntKind.wrap .i64 (Int.tdiv (IntKind.wrap .i64 x) 4)) 6⟩
def waitAt (x : Int) : Int := IntKind.wrap .i64 (1 + (Int.tmod (IntKind.wrap .i64 (Int.tdiv (IntKind.wrap .i64 x) 24)) 9))
theorem firedAt4_pos {x : Int} (h : 0 ≤ x ∧ x ≤ 65535) : 0 ≤ (firedAt4 x).inst ∧ 0 ≤ (firedAt4 x).timer ∧ 1 ≤ waitAt x ∧ waitAt x ≤ 9 := by
  have e1 : IntKind.wrap .i64 x = x := wr _ (by omega) (by omega)
  have e2 : Int.tdiv x 4 = x / 4 := Int.tdiv_eq_ediv_of_nonneg h.1
  have e3 : IntKind.wrap .i64 (x / 4) = x / 4 := wr _ (by omega) (by omega)
  have e4 : Int.tdiv x 24 = x / 24 := Int.tdiv_eq_ediv_of_nonneg h.1
  have e5 : IntKind.wrap .i64 (x / 24) = x / 24 := wr _ (by omega) (by omega)
  have e6 : IntKind.wrap .i64 (1 + x / 24 % 9) = 1 + x / 24 % 9 := wr _ (by omega) (by omega)
  unfold firedAt4 waitAt
  rw [e1, e2, e3, e4, e5, tmod_pos h.1, tmod_pos (by omega), tmod_pos (by omega), e6]
  refine ⟨?_, ?_, by omega, by omega⟩
  · show 0 ≤ x % 4; omega
  · show 0 ≤ x / 4 % 6; omega
theorem f5_loop0 {R : Type} {N : Nat} {l : List Int} {g : Int} {kp0 : ML → Nat → ML → Nat → Option R} {r : Option R} (hl : ∀ x ∈ l, 0 ≤ x ∧ x ≤ 65535) (hll : l.length ≤ 100) (h : ∀ A c1 B c2, Part g A B → A.length ≤ 100 → kp0 A c1 B c2 = r) :
    ∀ (m i : Nat) (A : ML) (c1 : Nat) (B : ML) (c2 : Nat), i ≤ l.length → l.length < m + i → Part g A B → A.length ≤ i → f5_l0 N l g true true kp0 m i A c1 B c2 = r := by
  intro m
  induction m with
  | zero => intro i A c1 B c2 h1 h2; omega
  | succ m ih =>
    intro i A c1 B c2 h1 h2 hp hA
    show f5_l0_b N l g true true kp0 (f5_l0 N l g true true kp0 m) i A c1 B c2 = r
    unfold f5_l0_b
    by_cases hi : i < l.length
    · rw [if_pos (by simpa using hi), at_get l i hi]
      simp only [Option.bind_some]
      obtain ⟨p1, p2, p3, p4⟩ := firedAt4_pos (hl l[i] (List.getElem_mem hi))
      refine (f9_ok N (firedAt4 l[i]).inst (firedAt4 l[i]).timer (waitAt l[i]) A true c1 _ ⟨p1, p2, p3, by omega⟩).trans ?_
      have hlen := upd_len (keyOf (firedAt4 l[i])) (waitAt l[i]) c1 A
      rw [wsucc i (by omega)]
      by_cases hg : (firedAt4 l[i]).inst = g
      · rw [if_neg (by
          show ¬ ((firedAt4 l[i]).inst != g) = true
          simp [hg])]
        exact ih (i + 1) _ _ _ _ (by omega) (by omega) (hp.own hg ⟨p3, p4⟩ c1) (Nat.le_trans hlen (by omega))
      · rw [if_pos (by
          show ((firedAt4 l[i]).inst != g) = true
          simp [hg])]
        refine (f9_ok N (firedAt4 l[i]).inst (firedAt4 l[i]).timer (waitAt l[i]) B true c2 _ ⟨p1, p2, p3, by omega⟩).trans ?_
        exact ih (i + 1) _ _ _ _ (by omega) (by omega) (hp.other hg ⟨p3, p4⟩ c1 c2) (Nat.le_trans hlen (by omega))
    · rw [if_neg (by simpa using hi)]
      exact h _ _ _ _ hp (by omega)
theorem ckC_vals {c : Cont} {hi : Int} (hh : hi ≤ 100000) (h : ∀ p ∈ c, 1 ≤ p.2 ∧ p.2 ≤ hi) : ∀ p ∈ ckC c, 1 ≤ p.2 ∧ p.2 ≤ hi - 1 := by
  intro p hp
  obtain ⟨q, hq, rfl⟩ := List.mem_map.1 hp
  obtain ⟨h1, h2⟩ := List.mem_filter.1 hq
  have := h q h1
  have h3 : q.2 ≠ 1 := by simpa using h2
  show 1 ≤ dec1 q.2 ∧ dec1 q.2 ≤ hi - 1
  rw [dec1_eq (by omega) (by omega)]
  omega
theorem f5_loop2 {R : Type} {N : Nat} {s1 s2 : Nat} {kp0 : Bool → Option R} {kp1 : ML → Bool → Option R} {r : Option R} (hN : 1000 < N) (h : ∀ e, kp1 [] e = r) :
    ∀ (m i : Nat) (A B : ML) (e1 e2 : Bool), i ≤ 10 → 10 < m + i → WF A → WF B → (V A).Perm (V B) → A.length ≤ 1000 → (∀ p ∈ V A, 1 ≤ p.2 ∧ p.2 ≤ 9 - (i : Int)) → f5_l2 N s1 s2 kp0 kp1 m i A e1 B e2 = r := by
  intro m
  induction m with
  | zero => intro i A B e1 e2 h1 h2; omega
  | succ m ih =>
    intro i A B e1 e2 h1 h2 wa wb hp hA hv
    show f5_l2_b N s1 s2 kp0 kp1 (f5_l2 N s1 s2 kp0 kp1 m) i A e1 B e2 = r
    unfold f5_l2_b
    by_cases hi : i < 10
    · have hB : B.length ≤ 1000 := by rw [← V_len B, ← hp.length_eq, V_len]; exact hA
      obtain ⟨a1, a2, a3⟩ := V_tick wa
      obtain ⟨b1, b2, b3⟩ := V_tick wb
      have eF : tickF A = tickF B := by
        rw [a2, b2]
        exact srt_perm ((hp.filter _).map _)
      have lF : (tickF B).length ≤ 1000 := by
        rw [b2, srt_len, List.length_map]
        exact Nat.le_trans (List.length_filter_le _ _) (by rw [V_len]; exact hB)
      rw [if_pos (by simp; omega), if_pos hA, if_pos hB, eF, f15_refl N _ (by omega) (by omega), if_neg (by simp), wr _ (by omega) (by omega), show ((i : Int) + 1) = ((i + 1 : Nat) : Int) by omega]
      refine ih (i + 1) _ _ _ _ (by omega) (by omega) a3 b3 (by rw [a1, b1]; exact ckC_perm hp) (Nat.le_trans (tickL_len A) hA) ?_
      rw [a1]
      intro p hp'
      have := ckC_vals (by omega) hv p hp'
      omega
    · have : i = 10 := by omega
      subst this
      rw [if_neg (by simp)]
      have : A = [] := by
        cases A with
        | nil => rfl
        | cons x r =>
          have := hv (firedOf x, x.2.1) (List.mem_map.2 ⟨x, by simp, rfl⟩)
          omega
      subst this
      exact h _
theorem f5_true {R : Type} (l : List Int) (gone : Int) (hl : ∀ x ∈ l, 0 ≤ x ∧ x ≤ 65535) (k0 : Bool → Option R) : f5 2000 l gone k0 = k0 true := by
  unfold f5
  by_cases h0 : l.length > 100
  · rw [if_pos (by simp; omega), known_true]
  · rw [if_neg (by simp; omega)]
    obtain ⟨g, hg⟩ : ∃ g, Int.tmod (IntKind.wrap .i64 gone) 4 = g := ⟨_, rfl⟩
    rw [hg]
    refine f5_loop0 hl (by omega) (fun A c1 B c2 hp hA => ?_) 2000 0 [] 0 [] 0 (by omega) (by omega) ⟨WF.nil, WF.nil, List.Perm.refl _, by simp [V]⟩ (by simp)
    have hc := V_clr hp.wa g
    have hlen : (clr g A).length = B.length := by rw [← V_len, ← V_len, hc.1]; exact hp.same.length_eq
    have hle := clr_len g A
    rw [hlen, clr_clr, hlen]
    have e1 : ((IntKind.wrap .i64 (((A.length : Nat) : Int) - ((B.length : Nat) : Int))) != (IntKind.wrap .i64 (((A.length : Nat) : Int) - ((B.length : Nat) : Int)))) = false := by simp
    have e2 : IntKind.wrap .i64 (((B.length : Nat) : Int) - ((B.length : Nat) : Int)) = 0 := by rw [Int.sub_self]; exact wr _ (by omega) (by omega)
    rw [e1, e2, if_pos (show (false == false) = true from rfl), if_neg (by simp)]
    refine f5_loop2 (by omega) (fun e => ?_) 2000 0 _ _ _ _ (by omega) (by omega) hc.2 hp.wb (by rw [hc.1]; exact hp.same) (by omega) ?_
    · rw [if_pos (by simp), known_true]
    · rw [hc.1]
      intro p hp'
      have := hp.vals p (List.mem_filter.1 hp').1
      omega
theorem wheelApart_ok {on : Nat} (l : List Int) (n : Int) (h0 : l.length ≤ maxLen ∧ ∀ x ∈ l, all2 (okN (E noCalls) kinds on) (kinds K.u16) (enc K.u16 x)) (h1 : (Lit.int .u8 n).wf = true) :
    CallOK (E noCalls) 5 [.tree (S := S) K.u16 l, .int .u8 n] [] ⟨.bool true, some [], []⟩ := by
  have hl : ∀ x ∈ l, 0 ≤ x ∧ x ≤ 65535 := by
    intro x hx
    obtain ⟨m, e, hm⟩ := okN_int (h0.2 x hx).1
    cases e
    exact u16_rng hm
  obtain ⟨res, e, h⟩ := f5_call 2000 l n (R := Res S) some ⟨.bool true, some [], []⟩ ((f5_run _ _ _ _).trans (f5_true _ _ hl _))
  cases e
  exact h
end Wh
