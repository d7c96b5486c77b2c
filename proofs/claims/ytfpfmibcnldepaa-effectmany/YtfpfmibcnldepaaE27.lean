/- EffectMany: blocks, choices and loops of effect.rows find what sp says. -/
import Derived.Test.YtfpfmibcnldepaaE26
set_option maxRecDepth 100000
set_option linter.unusedVariables false
set_option linter.unusedSimpArgs false
namespace Ef
open Go TE Go.Proofs
def initS : St2 := ([[]], [])
def iniO (many : Bool) : Option St2 := if many = true then none else some initS
theorem small_up {X Y : List MR} (hX : X.Nodup) (hs : ∀ x ∈ X, x ∈ Y) (h : small X = false) : small Y = false := by
  cases hq : small Y
  · rfl
  · rw [small_sub hX hs hq] at h; cases h
section
variable {N : Nat} (hN : maxRow < N) {V P Tm : List (List UInt8)} {Nd : List Node} {fl : List Expr → Bool} (hP : P.length < maxRow)
/-- The blocks of this depth are found by these functions. -/
def ActsOk (N : Nat) (V P Tm : List (List UInt8)) (Nd : List Node) (fl : List Expr → Bool) (d e : Nat) : Prop :=
  ∀ (l : List Act), dep N fl d l → ∀ (D : List MR) (s : BS) (X Y : List MR) (o : Option St2) (K : Kt), OkB D s X Y → Sim s X Y o → D.length + cst d l ≤ maxRow → Goes D (o.bind (sp fl P d l)) (cst d l) K →
    (Fam_effect_rows_inner_at N e).effect_rows_acts Unit l V P Tm Nd s.many s.l s.long s.kn s.kcl s.both s.t s.tcl s.f s.fcl K = some ()

theorem inner_ok {d e : Nat} (ha : ActsOk N V P Tm Nd fl d e) {l : List Act} (hd : dep N fl d l) {D : List MR} {l2 : List Next} {long : List Int} {kn : KnL} {kcl : Nat} (h : GD D l2 long kn) (many : Bool) (hb : D.length + cst d l ≤ maxRow)
    {k0 : Bool → KnL → Nat → List Next → List Int → Bool → SetL → Nat → SetL → Nat → Option Unit}
    (hk : ∀ D' s X Y, D <+: D' → D'.length ≤ D.length + cst d l → OkB D' s X Y → Sim s X Y ((iniO many).bind (sp fl P d l)) → k0 s.many s.kn s.kcl s.l s.long s.both s.t s.tcl s.f s.fcl = some ()) :
    (Fam_effect_rows_inner_at N (e + 1)).effect_rows_inner Unit l V P Tm Nd many l2 long kn kcl k0 = some () := by
  rw [effect_rows_inner_at]
  unfold effect_rows_inner_d
  have h0 := (SetIs.nil D 0).put h.nd h.z
  have e0 : ins [] ([] : MR) = [[]] := rfl
  rw [e0] at h0
  exact ha l hd D ⟨many, kn, kcl, false, [], 0, l2, long, _, _⟩ [[]] [] (iniO many) (fun r1 r2 r3 r4 r5 r6 r7 r8 r9 r10 => k0 r1 r2 r3 r7 r8 r4 r9 r10 r5 r6)
    ⟨h, h0, SetIs.nil _ _, fun _ => ⟨by decide, by decide⟩, by simp, fun e => by cases e⟩
    (by cases many; exact ⟨rfl, fun x => Iff.rfl, fun x => Iff.rfl, by simp [initS], by simp [initS]⟩; exact rfl) hb
    fun D' s X Y a b c f => hk D' s X Y a b c f

include hN
theorem choice_ok {d e : Nat} (ha : ActsOk N V P Tm Nd fl d e) {a : Act} (hd1 : dep N fl d a.Then) (hd2 : dep N fl d a.Else) {D : List MR} {s : BS} {X Y : List MR} {o : Option St2} (h : OkB D s X Y) (hs : Sim s X Y o)
    (hb : D.length + (1050000 + cst d a.Then + cst d a.Else) ≤ maxRow) {K : Kt}
    (hk : Goes D (o.bind fun s => (sp fl P d a.Then initS).bind fun y => (sp fl P d a.Else initS).bind fun z => choiceS y z s) (1050000 + cst d a.Then + cst d a.Else) K) :
    (Fam_effect_rows_inner_at N (e + 2)).effect_rows_choice Unit a.Kind a.Name a.Event a.X a.N a.Then a.Else a.At V P Tm Nd s.many s.l s.long s.kn s.kcl s.both s.t s.tcl s.f s.fcl K = some () := by
  rw [effect_rows_choice_at]
  unfold effect_rows_choice_d
  refine inner_ok ha hd1 h.gd s.many (by omega) fun D1 s1 X1 Y1 p1 q1 k1 m1 => ?_
  refine inner_ok ha hd2 k1.gd s1.many (by omega) fun D2 s2 X2 Y2 p2 q2 k2 m2 => ?_
  have x1 : s1.many = false → s.many = false := fun e => by
    obtain ⟨T, F, ho, _⟩ := m1.some_of e
    cases hq : s.many
    · rfl
    · rw [hq] at ho; simp [iniO] at ho
  have x2 : s2.many = false → s1.many = false := fun e => by
    obtain ⟨T, F, ho, _⟩ := m2.some_of e
    cases hq : s1.many
    · rfl
    · rw [hq] at ho; simp [iniO] at ho
  have pt2 : D <+: D2 := p1.trans p2
  refine then_ok hN k2.gd (h.st.mono pt2) (k1.st.mono p2) (SetIs.nil _ _) (fun e => ⟨(h.sm (x1 (x2 e))).1, (k1.sm (x2 e)).1⟩) (fun _ => rfl) (by omega) fun D3 m3 kn3 kcl3 t3 tcl3 O3 l3 long3 g3 i3 j3 => ?_
  have y3 : m3 = false → s2.many = false := fun e => by have := g3.mny; rw [e] at this; cases hq : s2.many; rfl; rw [hq] at this; cases this
  have z3 : m3 = false → small O3 = true := fun e => by have := g3.mny; rw [e] at this; cases hq : small O3; rw [hq] at this; simp at this; rfl
  refine then_ok hN i3 ((h.st.mono pt2).mono g3.ext) (k2.st.mono g3.ext) j3 (fun e => ⟨(h.sm (x1 (x2 (y3 e)))).1, (k2.sm (y3 e)).1⟩) z3 (by have := g3.len; omega) fun D4 m4 kn4 kcl4 t4 tcl4 O4 l4 long4 g4 i4 j4 => ?_
  have y4 : m4 = false → m3 = false := fun e => by have := g4.mny; rw [e] at this; cases hq : m3; rfl; rw [hq] at this; cases this
  have z4 : m4 = false → small O4 = true := fun e => by have := g4.mny; rw [e] at this; cases hq : small O4; rw [hq] at this; simp at this; rfl
  have e34 := g3.ext.trans g4.ext
  refine then_ok hN i4 ((h.st.mono pt2).mono e34) ((k1.sf.mono p2).mono e34) ((h.sf.mono pt2).mono e34) (fun e => ⟨(h.sm (x1 (x2 (y3 (y4 e))))).1, (k1.sm (x2 (y3 (y4 e)))).2⟩) (fun e => (h.sm (x1 (x2 (y3 (y4 e))))).2)
    (by have := g3.len; have := g4.len; omega) fun D5 m5 kn5 kcl5 t5 tcl5 O5 l5 long5 g5 i5 j5 => ?_
  have y5 : m5 = false → m4 = false := fun e => by have := g5.mny; rw [e] at this; cases hq : m4; rfl; rw [hq] at this; cases this
  have z5 : m5 = false → small O5 = true := fun e => by have := g5.mny; rw [e] at this; cases hq : small O5; rw [hq] at this; simp at this; rfl
  have e35 := e34.trans g5.ext
  refine then_ok hN i5 ((h.st.mono pt2).mono e35) (k2.sf.mono e35) j5 (fun e => ⟨(h.sm (x1 (x2 (y3 (y4 (y5 e)))))).1, (k2.sm (y3 (y4 (y5 e)))).2⟩) z5
    (by have := g3.len; have := g4.len; have := g5.len; omega) fun D6 m6 kn6 kcl6 t6 tcl6 O6 l6 long6 g6 i6 j6 => ?_
  have y6 : m6 = false → m5 = false := fun e => by have := g6.mny; rw [e] at this; cases hq : m5; rfl; rw [hq] at this; cases this
  have z6 : m6 = false → small O6 = true := fun e => by have := g6.mny; rw [e] at this; cases hq : small O6; rw [hq] at this; simp at this; rfl
  have e46 := g5.ext.trans g6.ext
  refine hk D6 ⟨m6, kn6, kcl6, false, t6, tcl6, l6, long6, t4, tcl4⟩ O4 O6 ((pt2.trans e35).trans g6.ext) ?_ ⟨i6, j4.mono e46, j6, fun e => ⟨z4 (y5 (y6 e)), z6 e⟩, ?_, fun e => by cases e⟩ ?_
  · have := g3.len; have := g4.len; have := g5.len; have := g6.len; omega
  · have := g3.le; have := g4.le
    simp only [List.length_nil] at *
    omega
  · cases hsm : s.many with
    | true => rw [hs.none_iff hsm, Option.bind_none]; cases hq : m6; have := x1 (x2 (y3 (y4 (y5 (y6 hq))))); rw [hsm] at this; cases this; exact (rfl : true = true)
    | false =>
      obtain ⟨T, F, rfl, a1, a2, a3, a4⟩ := hs.some_of hsm
      rw [hsm] at m1
      have m1' : Sim s1 X1 Y1 (sp fl P d a.Then initS) := m1
      rw [Option.bind_some]
      cases h1m : s1.many with
      | true => rw [m1'.none_iff h1m, Option.bind_none]; cases hq : m6; have := x2 (y3 (y4 (y5 (y6 hq)))); rw [h1m] at this; cases this; exact (rfl : true = true)
      | false =>
        obtain ⟨T1, F1, ho1, b1, b2, b3, b4⟩ := m1'.some_of h1m
        rw [h1m] at m2
        have m2' : Sim s2 X2 Y2 (sp fl P d a.Else initS) := m2
        rw [ho1, Option.bind_some]
        cases h2m : s2.many with
        | true => rw [m2'.none_iff h2m, Option.bind_none]; cases hq : m6; have := y3 (y4 (y5 (y6 hq))); rw [h2m] at this; cases this; exact (rfl : true = true)
        | false =>
          obtain ⟨T2, F2, ho2, c1, c2, c3, c4⟩ := m2'.some_of h2m
          rw [ho2, Option.bind_some]
          have prE : ∀ {A B C E : List MR} (_ : Alike A C) (_ : Alike B E) (x : MR), x ∈ pr A B ↔ x ∈ pr C E := fun h1 h2 x => by
            rw [mem_pr, mem_pr]
            constructor
            · rintro ⟨p, hp, q, hq, rfl⟩; exact ⟨p, (h1 p).1 hp, q, (h2 q).1 hq, rfl⟩
            · rintro ⟨p, hp, q, hq, rfl⟩; exact ⟨p, (h1 p).2 hp, q, (h2 q).2 hq, rfl⟩
          have n4 := j4.nodup i4.nd
          have n6 := j6.nodup i6.nd
          have nT : (un (un [] (pr T T1)) (pr T T2)).Nodup := nodup_un (nodup_un List.nodup_nil)
          have nF : (un (un F (pr T F1)) (pr T F2)).Nodup := nodup_un (nodup_un a4)
          have lo4 : ∀ x ∈ O4, x ∈ un (un [] (pr T T1)) (pr T T2) := fun x hx => by
            rw [mem_un, mem_un]
            rcases g4.lo x hx with hx | hx
            · rcases g3.lo x hx with hx | hx
              · simp at hx
              · exact .inl (.inr ((prE a1 b1 x).1 hx))
            · exact .inr ((prE a1 c1 x).1 hx)
          have lo6 : ∀ x ∈ O6, x ∈ un (un F (pr T F1)) (pr T F2) := fun x hx => by
            rw [mem_un, mem_un]
            rcases g6.lo x hx with hx | hx
            · rcases g5.lo x hx with hx | hx
              · exact .inl (.inl ((a2 x).1 hx))
              · exact .inl (.inr ((prE a1 b2 x).1 hx))
            · exact .inr ((prE a1 c2 x).1 hx)
          cases hm6 : m6 with
          | false =>
            have q5 := y6 hm6
            have q4 := y5 q5
            have q3 := y4 q4
            have al4 : Alike O4 (un (un [] (pr T T1)) (pr T T2)) := fun x => ⟨lo4 x, fun hx => by
              rw [mem_un, mem_un] at hx
              rcases hx with (hx | hx) | hx
              · simp at hx
              · exact g4.up x (g3.all q3 x ((prE a1 b1 x).2 hx))
              · exact g4.all q4 x ((prE a1 c1 x).2 hx)⟩
            have al6 : Alike O6 (un (un F (pr T F1)) (pr T F2)) := fun x => ⟨lo6 x, fun hx => by
              rw [mem_un, mem_un] at hx
              rcases hx with (hx | hx) | hx
              · exact g6.up x (g5.up x ((a2 x).2 hx))
              · exact g6.up x (g5.all q5 x ((prE a1 b2 x).2 hx))
              · exact g6.all hm6 x ((prE a1 c2 x).2 hx)⟩
            unfold choiceS
            rw [if_pos (by rw [← al4.small n4 nT]; exact z4 q4), if_pos (by rw [← al6.small n6 nF]; exact z6 hm6)]
            exact ⟨rfl, al4, al6, nT, nF⟩
          | true =>
            have : choiceS (T1, F1) (T2, F2) (T, F) = none := by
              unfold choiceS
              cases hm4 : m4 with
              | true =>
                have : small O4 = false := by
                  have w4 := g4.mny
                  have w3 := g3.mny
                  rw [h2m, Bool.false_or] at w3
                  rw [hm4, w3] at w4
                  cases hq : small O3
                  · exact small_up (j3.nodup i3.nd) g4.up hq
                  · rw [hq] at w4; simpa using w4
                rw [if_neg (by simp [small_up n4 lo4 this])]
              | false =>
                have : small O6 = false := by
                  have w6 := g6.mny
                  have w5 := g5.mny
                  rw [hm4, Bool.false_or] at w5
                  rw [hm6, w5] at w6
                  cases hq : small O5
                  · exact small_up (j5.nodup i5.nd) g6.up hq
                  · rw [hq] at w6; simpa using w6
                rw [if_neg (c := small (un (un F (pr T F1)) (pr T F2)) = true) (by simp [small_up n6 lo6 this])]
                split <;> rfl
            rw [this]
            rfl
end
end Ef
