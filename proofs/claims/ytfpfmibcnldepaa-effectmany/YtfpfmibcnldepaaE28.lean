/- EffectMany: acts finds what sp says, at every depth. -/
import Derived.Test.YtfpfmibcnldepaaE27
set_option maxRecDepth 100000
set_option linter.unusedVariables false
set_option linter.unusedSimpArgs false
namespace Ef
open Go TE Go.Proofs
section
variable {N : Nat} (hN : maxRow < N) {V P Tm : List (List UInt8)} {Nd : List Node} {fl : List Expr → Bool} (hP : P.length < maxRow)
/-- The rounds of a loop. -/
theorem loop_ok {d e : Nat} (ha : ActsOk N V P Tm Nd fl d e) {a : Act} (hd : dep N fl d a.Then) {w1 : List Act} {w2 w3 : Int} {q1 : List Next} {q2 : List Int} (c : Nat) (hc : c ≤ 16) {K : Kt} :
    ∀ (n i : Nat), i ≤ c → c - i < n → ∀ (D : List MR) (s : BS) (X Y : List MR) (o : Option St2), OkB D s X Y → Sim s X Y o → D.length + (c - i) * cst d a.Then ≤ maxRow → Goes D (o.bind (loopS (sp fl P d a.Then) (c - i))) ((c - i) * cst d a.Then) K →
    effect_rows_acts_l3 (Fam_effect_rows_inner_at N e) N w1 w2 w3 (c : Int) V P Tm Nd q1 q2 a.Kind a.Name a.Event a.X a.N a.Then a.Else a.At K n (i : Int) s.many s.kn s.kcl s.both s.f s.fcl s.l s.long s.t s.tcl = some ()
  | 0, _, _, h, _, _, _, _, _, _, _, _, _ => by omega
  | n + 1, i, hi, hn, D, s, X, Y, o, h, hs, hb, hk => by
    show effect_rows_acts_l3_b (Fam_effect_rows_inner_at N e) N w1 w2 w3 (c : Int) V P Tm Nd q1 q2 a.Kind a.Name a.Event a.X a.N a.Then a.Else a.At K (effect_rows_acts_l3 (Fam_effect_rows_inner_at N e) N w1 w2 w3 (c : Int) V P Tm Nd q1 q2 a.Kind a.Name a.Event a.X a.N a.Then a.Else a.At K n) (i : Int) s.many s.kn s.kcl s.both s.f s.fcl s.l s.long s.t s.tcl = some ()
    unfold effect_rows_acts_l3_b
    by_cases hlt : i < c
    · rw [if_pos (by simpa using hlt)]
      obtain ⟨m, hm⟩ : ∃ m, c - i = m + 1 := ⟨c - i - 1, by omega⟩
      have hm' : c - (i + 1) = m := by omega
      rw [hm] at hb hk
      rw [Nat.succ_mul] at hb hk
      have hw : IntKind.wrap .i64 ((i : Int) + 1) = ((i + 1 : Nat) : Int) := by rw [wr _ (by omega) (by omega)]; omega
      refine ha a.Then hd D s X Y o _ h hs (by omega) fun D' s' X' Y' h1 h2 h3 h4 => ?_
      simp only [hw]
      refine loop_ok ha hd c hc n (i + 1) (by omega) (by omega) D' s' X' Y' _ h3 h4 (by rw [hm']; omega) ?_
      rw [hm']
      have e : (o.bind (loopS (sp fl P d a.Then) (m + 1))) = (o.bind (sp fl P d a.Then)).bind (loopS (sp fl P d a.Then) m) := by
        cases o with
        | none => rfl
        | some st => rfl
      rw [← e]
      exact hk.next h1 (by omega)
    · rw [if_neg (by simpa using hlt)]
      have : c - i = 0 := by omega
      rw [this] at hk
      refine hk D s X Y (List.prefix_refl _) (by omega) h ?_
      cases o with
      | none => exact hs
      | some st => exact hs
include hN hP
/-- One act. -/
theorem act_ok {d e : Nat} (hde : 3 * d ≤ e) (ha : ∀ e', 3 * d ≤ e' → ActsOk N V P Tm Nd fl d e') {a : Act} (h6 : a.Kind = 6 → dep N fl d a.Then ∧ dep N fl d a.Else) (h7 : a.Kind = 7 → dep N fl d a.Then) {w1 : List Act} {w2 w3 : Int} {q1 : List Next} {q2 : List Int}
    {D : List MR} {s : BS} {X Y : List MR} {o : Option St2} (h : OkB D s X Y) (hs : Sim s X Y o) (hb : D.length + (1100000 + rnd a * cst d a.Then + cst d a.Then + cst d a.Else) ≤ maxRow) {K : Kt}
    (hk : Goes D (o.bind fun s => if (a.Kind == 2) = true then markS ⟨-1, a.Event⟩ s
  else if (a.Kind == 3) = true then markS ⟨idxS P a.Name 0, a.Event⟩ s
  else if (a.Kind == 6) = true then (sp fl P d a.Then ([[]], [])).bind fun y => (sp fl P d a.Else ([[]], [])).bind fun z => choiceS y z s
  else if (a.Kind == 7) = true then loopS (sp fl P d a.Then) (if 16 < a.N then 16 else a.N).toNat s
  else some s) (1100000 + rnd a * cst d a.Then + cst d a.Then + cst d a.Else) K) :
    effect_rows_acts_c6 (Fam_effect_rows_inner_at N (e + 2)) N w1 w2 w3 V P Tm Nd s.many q1 q2 s.kn s.kcl s.both s.f s.fcl s.l s.long s.t s.tcl a.Kind a.Name a.Event a.X a.N a.Then a.Else a.At K = some () := by
  unfold effect_rows_acts_c6
  by_cases k2 : (a.Kind == 2) = true
  · rw [if_pos k2]
    simp only [if_pos k2] at hk
    exact markB hN h hs (by omega) (m := ⟨-1, a.Event⟩) (hk.next (List.prefix_refl _) (by omega))
  · rw [if_neg k2]
    simp only [if_neg k2] at hk
    by_cases k3 : (a.Kind == 3) = true
    · rw [if_pos k3]
      simp only [if_pos k3] at hk
      rw [idx_eq hN hP]
      exact markB hN h hs (by omega) (m := ⟨idxS P a.Name 0, a.Event⟩) (hk.next (List.prefix_refl _) (by omega))
    · rw [if_neg k3]
      simp only [if_neg k3] at hk
      by_cases k6 : (a.Kind == 6) = true
      · rw [if_pos k6]
        simp only [if_pos k6] at hk
        obtain ⟨d1, d2⟩ := h6 (by simpa using k6)
        exact choice_ok hN (ha e hde) d1 d2 h hs (by omega) (hk.next (List.prefix_refl _) (by omega))
      · rw [if_neg k6]
        simp only [if_neg k6] at hk
        by_cases k7 : (a.Kind == 7) = true
        · rw [if_pos k7]
          simp only [if_pos k7] at hk
          have d1 := h7 (by simpa using k7)
          by_cases hneg : a.N < 0
          · have e1 : (if 16 < a.N then 16 else a.N) = a.N := if_neg (by omega)
            rw [e1] at hk ⊢
            obtain ⟨n, rfl⟩ : ∃ n, N = n + 1 := ⟨N - 1, by omega⟩
            show effect_rows_acts_l3_b _ (n + 1) w1 w2 w3 a.N V P Tm Nd q1 q2 a.Kind a.Name a.Event a.X a.N a.Then a.Else a.At K _ 0 s.many s.kn s.kcl s.both s.f s.fcl s.l s.long s.t s.tcl = some ()
            unfold effect_rows_acts_l3_b
            rw [if_neg (by simp; omega)]
            rw [show a.N.toNat = 0 by omega] at hk
            refine hk D s X Y (List.prefix_refl _) (by omega) h ?_
            cases o <;> exact hs
          · obtain ⟨c, hc⟩ : ∃ c : Nat, (if 16 < a.N then 16 else a.N) = (c : Int) := ⟨(if 16 < a.N then 16 else a.N).toNat, by split <;> omega⟩
            have hc16 : c ≤ 16 := by split at hc <;> omega
            rw [hc] at hk ⊢
            rw [Int.toNat_natCast] at hk
            have hr : rnd a = c := by unfold rnd; rw [hc]; rfl
            rw [hr] at hb hk
            have hmul : (c - 0) * cst d a.Then = c * cst d a.Then := rfl
            exact loop_ok (ha (e + 2) (by omega)) d1 c hc16 N 0 (by omega) (by simp only [maxRow] at hN; omega) D s X Y o h hs (by omega) (hk.next (List.prefix_refl _) (by omega))
        · rw [if_neg k7]
          simp only [if_neg k7] at hk
          refine hk D s X Y (List.prefix_refl _) (by omega) h ?_
          cases o <;> exact hs

theorem acts_l0_ok {d e : Nat} (hde : 3 * d ≤ e) (ha : ∀ e', 3 * d ≤ e' → ActsOk N V P Tm Nd fl d e') {l : List Act} (hd : dep N fl (d + 1) l) {q1 : List Next} {q2 : List Int} {K : Kt} :
    ∀ (n i : Nat), i ≤ l.length → l.length - i < n → ∀ (D : List MR) (s : BS) (X Y : List MR) (o : Option St2), OkB D s X Y → Sim s X Y o → D.length + cstL (fun a => 1100000 + rnd a * cst d a.Then + cst d a.Then + cst d a.Else) (l.drop i) ≤ maxRow →
    Goes D (o.bind (actsS (actS fl P (sp fl P d)) (l.drop i))) (cstL (fun a => 1100000 + rnd a * cst d a.Then + cst d a.Then + cst d a.Else) (l.drop i)) K →
    effect_rows_acts_l0 (Fam_effect_rows_inner_at N (e + 2)) N l ((l.length : Nat) : Int) V P Tm Nd q1 q2 (fun y150 y151 y152 y153 y154 y155 y156 y157 y158 y159 => K y150 y151 y152 y153 y154 y155 y156 y157 y158 y159) (fun y150 y151 y152 y153 y154 y155 y156 y157 y158 y159 => K y150 y151 y152 y153 y154 y155 y156 y157 y158 y159) n (i : Int) s.many s.kn s.kcl s.both s.f s.fcl s.l s.long s.t s.tcl = some ()
  | 0, _, _, h, _, _, _, _, _, _, _, _, _ => by omega
  | n + 1, i, hi, hn, D, s, X, Y, o, h, hs, hb, hk => by
    show effect_rows_acts_l0_b (Fam_effect_rows_inner_at N (e + 2)) N l ((l.length : Nat) : Int) V P Tm Nd q1 q2 _ _ (effect_rows_acts_l0 (Fam_effect_rows_inner_at N (e + 2)) N l ((l.length : Nat) : Int) V P Tm Nd q1 q2 _ _ n) (i : Int) s.many s.kn s.kcl s.both s.f s.fcl s.l s.long s.t s.tcl = some ()
    unfold effect_rows_acts_l0_b
    have hlen := hd.1
    simp only [maxRow] at hlen
    by_cases hlt : i < l.length
    · rw [if_pos (by simpa using hlt), at_nat]
      obtain ⟨a, ha1, hdr⟩ := drop_cons hlt
      rw [ha1, Option.bind_some]
      rw [hdr] at hb hk
      simp only [cstL, actsS] at hb hk
      obtain ⟨hx, h6, h7⟩ := hd.2 a (List.mem_of_getElem? ha1)
      by_cases hm : s.many = true
      · rw [if_pos hm]
        refine hk D s X Y (List.prefix_refl _) (by omega) h ?_
        have := hs.none_iff hm
        subst this
        exact hs
      · rw [if_neg hm]
        have hw : IntKind.wrap .i64 ((i : Int) + 1) = ((i + 1 : Nat) : Int) := by rw [wr _ (by omega) (by omega)]; omega
        rw [hx]
        have hc : (ifB (a.Kind == 4) false (some (fl a.X)) (some true)) = some (a.Kind == 4 || fl a.X) := by
          cases a.Kind == 4 <;> simp [ifB]
        rw [hc, Option.bind_some]
        have eq : o.bind (fun st => (actS fl P (sp fl P d) a st).bind (actsS (actS fl P (sp fl P d)) (l.drop (i + 1)))) = (o.bind (actS fl P (sp fl P d) a)).bind (actsS (actS fl P (sp fl P d)) (l.drop (i + 1))) := by
          cases o <;> rfl
        rw [eq] at hk
        have fin : ∀ (D1 : List MR) (s1 : BS) (X1 Y1 : List MR), D <+: D1 → D1.length ≤ D.length + (1100000 + rnd a * cst d a.Then + cst d a.Then + cst d a.Else) → OkB D1 s1 X1 Y1 → Sim s1 X1 Y1 (o.bind (actS fl P (sp fl P d) a)) →
            effect_rows_acts_l0 (Fam_effect_rows_inner_at N (e + 2)) N l ((l.length : Nat) : Int) V P Tm Nd q1 q2 (fun y150 y151 y152 y153 y154 y155 y156 y157 y158 y159 => K y150 y151 y152 y153 y154 y155 y156 y157 y158 y159) (fun y150 y151 y152 y153 y154 y155 y156 y157 y158 y159 => K y150 y151 y152 y153 y154 y155 y156 y157 y158 y159) n (IntKind.wrap .i64 ((i : Int) + 1)) s1.many s1.kn s1.kcl s1.both s1.f s1.fcl s1.l s1.long s1.t s1.tcl = some () := by
          intro D1 s1 X1 Y1 g1 g2 g3 g4
          rw [hw]
          exact acts_l0_ok hde ha hd n (i + 1) (by omega) (by omega) D1 s1 X1 Y1 _ g3 g4 (by omega) (hk.next g1 (by omega))
        by_cases hf : (a.Kind == 4 || fl a.X) = true
        · rw [if_pos hf]
          refine failB hN h hs (c := 0) (K := fun many kn kcl both f fcl l4 long4 t tcl => effect_rows_acts_c6 (Fam_effect_rows_inner_at N (e + 2)) N l _ _ V P Tm Nd many q1 q2 kn kcl both f fcl l4 long4 t tcl a.Kind a.Name a.Event a.X a.N a.Then a.Else a.At _) ?_
          intro D1 s1 X1 Y1 g1 g2 g3 g4
          refine act_ok hN hP hde ha h6 h7 g3 g4 (by omega) fun D2 s2 X2 Y2 f1 f2 f3 f4 => fin D2 s2 X2 Y2 (g1.trans f1) (by omega) f3 ?_
          have : o.bind (actS fl P (sp fl P d) a) = (o.bind failS).bind (fun s => if (a.Kind == 2) = true then markS ⟨-1, a.Event⟩ s
  else if (a.Kind == 3) = true then markS ⟨idxS P a.Name 0, a.Event⟩ s
  else if (a.Kind == 6) = true then (sp fl P d a.Then ([[]], [])).bind fun y => (sp fl P d a.Else ([[]], [])).bind fun z => choiceS y z s
  else if (a.Kind == 7) = true then loopS (sp fl P d a.Then) (if 16 < a.N then 16 else a.N).toNat s
  else some s) := by
            cases o with
            | none => rfl
            | some st => simp only [Option.bind_some, actS, if_pos hf]
          rw [this]
          exact f4
        · rw [if_neg hf]
          refine act_ok hN hP hde ha h6 h7 h hs (by omega) fun D1 s1 X1 Y1 g1 g2 g3 g4 => fin D1 s1 X1 Y1 g1 g2 g3 ?_
          have : o.bind (actS fl P (sp fl P d) a) = o.bind (fun s => if (a.Kind == 2) = true then markS ⟨-1, a.Event⟩ s
  else if (a.Kind == 3) = true then markS ⟨idxS P a.Name 0, a.Event⟩ s
  else if (a.Kind == 6) = true then (sp fl P d a.Then ([[]], [])).bind fun y => (sp fl P d a.Else ([[]], [])).bind fun z => choiceS y z s
  else if (a.Kind == 7) = true then loopS (sp fl P d a.Then) (if 16 < a.N then 16 else a.N).toNat s
  else some s) := by
            cases o with
            | none => rfl
            | some st => simp only [Option.bind_some, actS, if_neg hf]
          rw [this]
          exact g4
    · rw [if_neg (by simpa using hlt)]
      rw [List.drop_eq_nil_of_le (by omega)] at hk
      refine hk D s X Y (List.prefix_refl _) (by omega) h ?_
      cases o <;> exact hs
theorem acts_ok : ∀ (d e : Nat), 3 * d ≤ e → ActsOk N V P Tm Nd fl d e
  | 0, e, he => fun l hd => hd.elim
  | d + 1, e, he => by
    intro l hd D s X Y o K h hs hb hk
    obtain ⟨e', rfl⟩ : ∃ e', e = e' + 3 := ⟨e - 3, by omega⟩
    rw [effect_rows_acts_at]
    unfold effect_rows_acts_d
    exact acts_l0_ok hN hP (e := e') (by omega) (fun e2 h2 => acts_ok d e2 h2) hd N 0 (by omega) (by have := hd.1; omega) D s X Y o h hs hb hk
end
end Ef
