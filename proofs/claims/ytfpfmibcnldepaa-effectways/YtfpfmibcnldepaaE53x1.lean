/- E53_1: a part of the proof of EffectWays: lemmas on the evaluator and on the functions that the law reaches. -/
import Derived.Test.YtfpfmibcnldepaaEQ
set_option maxRecDepth 100000
set_option linter.unusedVariables false
namespace Ef
open Go TE Go.Proofs
structure Fam_l30_EffectWays where
 l30_known : (R : Type) → (Bool → Option R) → Option R
 r37_Block : (R : Type) → (List (List UInt8)) → (List (List UInt8)) → (List (List UInt8)) → (List (List UInt8)) → Int → (List Int) → Int → ((List Act) → Int → Option R) → Option R
 r37_Place : (R : Type) → Int → Int → (Int → Option R) → Option R
 effect_Ways : (R : Type) → (List Act) → (List (List UInt8)) → (List (List UInt8)) → (List (List UInt8)) → (List Node) → Int → ((List (List Mark)) → Int → Option R) → Option R
 r30_Ways : (R : Type) → (List Act) → (List (List UInt8)) → (List (List UInt8)) → (List (List UInt8)) → (List Node) → Int → ((List (List Mark)) → Int → Option R) → Option R
 l30_marks : (R : Type) → (List Mark) → ((List Mark) → Option R) → Option R
 r30_Same : (R : Type) → (List Mark) → (List Mark) → (Bool → Option R) → Option R
def l30_EffectWays_l30_known_q : Pat S := ⟨[], []⟩
noncomputable def l30_EffectWays_l30_known_C (F : Fam_l30_EffectWays) : Ct S := ⟨7, l30_EffectWays_l30_known_q, fun R k => F.l30_known R (oK ⟨.b, [], []⟩ k)⟩
def l30_EffectWays_r37_Block_q : Pat S := ⟨[.p 0 0 0, y0, .i .i64], [.bx [.t .int, .i .i64]]⟩
noncomputable def l30_EffectWays_r37_Block_C (F : Fam_l30_EffectWays) : Ct S := ⟨9, l30_EffectWays_r37_Block_q, fun R k a b c d e g h => F.r37_Block R a b c d e g h (fun i => oK ⟨.t .act, [.bx [.t .int, .i .i64]], []⟩ k i g)⟩
def l30_EffectWays_r37_Place_q : Pat S := ⟨[.i .i64, .i .i64], []⟩
noncomputable def l30_EffectWays_r37_Place_C (F : Fam_l30_EffectWays) : Ct S := ⟨10, l30_EffectWays_r37_Place_q, fun R k a b => F.r37_Place R a b (oK ⟨.i .i64, [], []⟩ k)⟩
def l30_EffectWays_effect_Ways_q : Pat S := ⟨[.t .act, y1, .i .i64], []⟩
noncomputable def l30_EffectWays_effect_Ways_C (F : Fam_l30_EffectWays) : Ct S := ⟨11, l30_EffectWays_effect_Ways_q, fun R k a b c d e g => F.effect_Ways R a b c d e g (oK ⟨.tp [.t .marks, .i .i64], [], []⟩ k)⟩
def l30_EffectWays_r30_Ways_q : Pat S := ⟨[.t .act, y1, .i .i64], []⟩
noncomputable def l30_EffectWays_r30_Ways_C (F : Fam_l30_EffectWays) : Ct S := ⟨12, l30_EffectWays_r30_Ways_q, fun R k a b c d e g => F.r30_Ways R a b c d e g (oK ⟨.tp [.t .rmarks, .i .i64], [], []⟩ k)⟩
def l30_EffectWays_l30_marks_q : Pat S := ⟨[.t .mark], []⟩
noncomputable def l30_EffectWays_l30_marks_C (F : Fam_l30_EffectWays) : Ct S := ⟨14, l30_EffectWays_l30_marks_q, fun R k a => F.l30_marks R a (oK ⟨.t .rmark, [], []⟩ k)⟩
def l30_EffectWays_r30_Same_q : Pat S := ⟨[.t .rmark, .t .rmark], []⟩
noncomputable def l30_EffectWays_r30_Same_C (F : Fam_l30_EffectWays) : Ct S := ⟨13, l30_EffectWays_r30_Same_q, fun R k a b => F.r30_Same R a b (oK ⟨.b, [], []⟩ k)⟩
structure Fam_l30_EffectWays_ok (F : Fam_l30_EffectWays) : Prop where
 l30_known : (l30_EffectWays_l30_known_C F).ok E0
 r37_Block : (l30_EffectWays_r37_Block_C F).ok E0
 r37_Place : (l30_EffectWays_r37_Place_C F).ok E0
 effect_Ways : (l30_EffectWays_effect_Ways_C F).okm E0
 r30_Ways : (l30_EffectWays_r30_Ways_C F).ok E0
 l30_marks : (l30_EffectWays_l30_marks_C F).ok E0
 r30_Same : (l30_EffectWays_r30_Same_C F).ok E0
def l30_EffectWays_q : Pat S := ⟨[.t .int, .i .i64], []⟩
noncomputable def l30_EffectWays_l0_b (F : Fam_l30_EffectWays) {R : Type} (N : Nat) (l_28 x_29 : List (List Mark)) (kp0 : Option R) (kp1 : Bool → Option R) (rec : Int → Option R) (i_30 : Int) : Option R :=
 if (decide (i_30 < ((l_28.length : Nat) : Int))) = true then
  ((at? l_28 i_30).bind fun e31 =>
 F.l30_marks _ e31 (fun r32 =>
 (at? x_29 i_30).bind fun e33 =>
 F.r30_Same _ r32 e33 (fun r34 =>
 if (!r34) = true then
  (kp1 false)
 else
  (rec (IntKind.wrap .i64 (i_30 + 1))))))
 else
  (kp0 )
noncomputable def l30_EffectWays_l0 (F : Fam_l30_EffectWays) {R : Type} (N : Nat) (l_28 x_29 : List (List Mark)) (kp0 : Option R) (kp1 : Bool → Option R) : Nat → Int → Option R
 | 0 => fun _ => none
 | n + 1 => fun i_30 => l30_EffectWays_l0_b F N l_28 x_29 kp0 kp1 (l30_EffectWays_l0 F N l_28 x_29 kp0 kp1 n) i_30
noncomputable def l30_EffectWays_c9 (F : Fam_l30_EffectWays) {R : Type} (N : Nat) (b_17 : List Act) (k_18 : Int) (l_19 : List (List Mark)) (e_20 : Int) (m_21 m_22 m_23 : List (List UInt8)) (m_24 : List Node) (kp0 : Bool → Option R) : Option R :=
 F.r30_Ways _ b_17 m_21 m_22 m_23 m_24 k_18 (fun r25 r26 =>
 (ifB (e_20 != r26) false (some (((l_19.length : Nat) : Int) != ((r25.length : Nat) : Int))) (some true)).bind fun c27 =>
 if c27 = true then
  (kp0 false)
 else
  (l30_EffectWays_l0 F N l_19 r25 (F.l30_known _ (fun r36 =>
 kp0 r36))
  (fun y35 =>
 kp0 y35) N 0))
noncomputable def l30_EffectWays_c8 (F : Fam_l30_EffectWays) {R : Type} (N : Nat) (b_5 : List Act) (k_6 : Int) (n_7 n_8 n_9 : List (List UInt8)) (n_10 : List Node) (m_11 m_12 m_13 : List (List UInt8)) (m_14 : List Node) (kp0 : Bool → Option R) : Option R :=
 F.effect_Ways _ b_5 n_7 n_8 n_9 n_10 k_6 (fun r15 r16 =>
 l30_EffectWays_c9 F N b_5 k_6 r15 r16 m_11 m_12 m_13 m_14 (fun y37 =>
 kp0 y37))
noncomputable def l30_EffectWays_d (F : Fam_l30_EffectWays) {R : Type} (N : Nat) (v : List Int) (fuel : Int) (k0 : Bool → Option R) : Option R :=
 if (decide (((v.length : Nat) : Int) > 150)) = true then
  (F.l30_known _ (fun r1 =>
  k0 r1))
 else
  (F.r37_Block _ ([[120], [121]]) ([[112], [113]]) ([[116]]) ([] : List (List UInt8)) 3 v 0 (fun r2 r3 =>
 F.r37_Place _ fuel 60 (fun r4 =>
 if ((Int.tmod fuel 2) == 0) = true then
  (l30_EffectWays_c8 F N r2 5000 ([[120], [121]]) ([[112], [113]]) ([[116]]) ([] : List Node) ([[120], [121]]) ([[112], [113]]) ([[116]]) ([] : List Node) (fun y38 =>
  k0 y38))
 else
  (l30_EffectWays_c8 F N r2 r4 ([[120], [121]]) ([[112], [113]]) ([[116]]) ([] : List Node) ([[120], [121]]) ([[112], [113]]) ([[116]]) ([] : List Node) (fun y39 =>
  k0 y39)))))
noncomputable def l30_EffectWays_D (F : Fam_l30_EffectWays) (hF : Fam_l30_EffectWays_ok F) (N : Nat) : FD E0 := { f := 3, fn := Try.f3, q := l30_EffectWays_q, loops := [{ cur := 0, live := [10, 12, 14], out := fun | .exit 0 => ([], []) | .ret => ([4], []) | _ => ([], []), q := ⟨[.t .marks, .t .rmarks, .i .i64], []⟩, G := fun R K n a b c => l30_EffectWays_l0 F N a b (pK ⟨[], []⟩ (K (.exit 0))) (pK ⟨[.b], []⟩ (K .ret)) n c, B := fun R K rec a b c => l30_EffectWays_l0_b F N a b (pK ⟨[], []⟩ (K (.exit 0))) (pK ⟨[.b], []⟩ (K .ret)) (rec a b) c }], cuts := [{ key := 9, live := [7, 8, 9, 10, 11], out := fun | .ret => ([4], []) | _ => ([], []), q := ⟨[.p 0 0 0, .t .act, .i .i64, .t .marks, .i .i64], [z1]⟩, G := fun R K a b c d e g h i => l30_EffectWays_c9 F N a b c d e g h i (pK ⟨[.b], []⟩ (K .ret)) }, { key := 8, live := [6, 7, 8, 9], out := fun | .ret => ([4], []) | _ => ([], []), q := ⟨[.p 0 0 0, .p 1 0 0, .t .act, .i .i64], [z1, z1]⟩, G := fun R K a b c d e g h i j l => l30_EffectWays_c8 F N a b c d e g h i j l (pK ⟨[.b], []⟩ (K .ret)) }], g := [⟨l30_EffectWays_l30_known_C F, hF.l30_known⟩, l30_named_S N, ⟨l30_EffectWays_r37_Block_C F, hF.r37_Block⟩, ⟨l30_EffectWays_r37_Place_C F, hF.r37_Place⟩, ⟨l30_EffectWays_r30_Ways_C F, hF.r30_Ways⟩, ⟨l30_EffectWays_r30_Same_C F, hF.r30_Same⟩, ⟨l30_EffectWays_l30_marks_C F, hF.l30_marks⟩], gm := [⟨l30_EffectWays_effect_Ways_C F, hF.effect_Ways⟩], nd := true }
theorem l30_EffectWays_okF (F : Fam_l30_EffectWays) (hF : Fam_l30_EffectWays_ok F) (N : Nat) : Ct.okm E0 ⟨(l30_EffectWays_D F hF N).f, (l30_EffectWays_D F hF N).q, fun R k a b => l30_EffectWays_d F N a b (oK ⟨.b, [], []⟩ k)⟩ := FD.ctm e0 (l30_EffectWays_D F hF N) N (fun R k a b => l30_EffectWays_d F N a b (oK ⟨.b, [], []⟩ k))
noncomputable def l30_EffectWays_inst (N : Nat) : Fam_l30_EffectWays where
 l30_known := fun R => l30_known N
 r37_Block := fun R => r37_Block N
 r37_Place := fun R => r37_Place N
 effect_Ways := fun R => effect_Ways N
 r30_Ways := fun R => r30_Ways N
 l30_marks := fun R => l30_marks N
 r30_Same := fun R => r30_Same N
theorem l30_EffectWays_inst_ok (N : Nat) : Fam_l30_EffectWays_ok (l30_EffectWays_inst N) := { l30_known := (l30_known_S N).2, r37_Block := (r37_Block_S N).2, r37_Place := (r37_Place_S N).2, effect_Ways := (effect_Ways_S N).2, r30_Ways := (r30_Ways_S N).2, l30_marks := (l30_marks_S N).2, r30_Same := (r30_Same_S N).2 }
noncomputable def l30_EffectWays {R : Type} (N : Nat) (v : List Int) (fuel : Int) (k0 : Bool → Option R) : Option R := l30_EffectWays_d (l30_EffectWays_inst N) N v fuel k0
theorem l30_EffectWays_ok (N : Nat) : Ct.okm E0 ⟨(l30_EffectWays_D (l30_EffectWays_inst N) (l30_EffectWays_inst_ok N) N).f, (l30_EffectWays_D (l30_EffectWays_inst N) (l30_EffectWays_inst_ok N) N).q, fun R k a b => l30_EffectWays N a b (oK ⟨.b, [], []⟩ k)⟩ := l30_EffectWays_okF (l30_EffectWays_inst N) (l30_EffectWays_inst_ok N) N
end Ef
