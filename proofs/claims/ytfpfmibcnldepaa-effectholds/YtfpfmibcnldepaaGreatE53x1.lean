/- E53_1: a part of the proof of EffectHolds: lemmas on the evaluator and on the functions that the law reaches. -/
import Derived.Test.YtfpfmibcnldepaaGreatEQ
set_option maxRecDepth 100000
set_option linter.unusedVariables false
namespace Ef
open Go TE Go.Proofs
structure Fam_l30_EffectHolds where
 l30_known : (R : Type) → (Bool → Option R) → Option R
 r37_Block : (R : Type) → (List (List UInt8)) → (List (List UInt8)) → (List (List UInt8)) → (List (List UInt8)) → Int → (List Int) → Int → ((List Act) → Int → Option R) → Option R
 r37_Place : (R : Type) → Int → Int → (Int → Option R) → Option R
 effect_Ways : (R : Type) → (List Act) → (List (List UInt8)) → (List (List UInt8)) → (List (List UInt8)) → (List Node) → Int → ((List (List Mark)) → Int → Option R) → Option R
 r16_Block : (R : Type) → (List Act) → (List (List UInt8)) → (List (List UInt8)) → (List (List UInt8)) → (List Node) → ((List Ins) → Option R) → Option R
 r17_Run : (R : Type) → (List Ins) → (List Int) → Int → Int → (Int → (List Int) → (List Msg) → (List Effc) → Int → Int → Option R) → Option R
 l30_fits : (R : Type) → (List Mark) → Int → (List Int) → (List Msg) → (List Effc) → Int → Int → (Bool → Option R) → Option R
def l30_EffectHolds_l30_known_q : Pat S := ⟨[], []⟩
noncomputable def l30_EffectHolds_l30_known_C (F : Fam_l30_EffectHolds) : Ct S := ⟨4, l30_EffectHolds_l30_known_q, fun R k => F.l30_known R (oK ⟨.b, [], []⟩ k)⟩
def l30_EffectHolds_r37_Block_q : Pat S := ⟨[.p 0 0 0, y0, .i .i64], [.bx [.t .int, .i .i64]]⟩
noncomputable def l30_EffectHolds_r37_Block_C (F : Fam_l30_EffectHolds) : Ct S := ⟨6, l30_EffectHolds_r37_Block_q, fun R k a b c d e g h => F.r37_Block R a b c d e g h (fun i => oK ⟨.t .act, [.bx [.t .int, .i .i64]], []⟩ k i g)⟩
def l30_EffectHolds_r37_Place_q : Pat S := ⟨[.i .i64, .i .i64], []⟩
noncomputable def l30_EffectHolds_r37_Place_C (F : Fam_l30_EffectHolds) : Ct S := ⟨7, l30_EffectHolds_r37_Place_q, fun R k a b => F.r37_Place R a b (oK ⟨.i .i64, [], []⟩ k)⟩
def l30_EffectHolds_effect_Ways_q : Pat S := ⟨[.t .act, y1, .i .i64], []⟩
noncomputable def l30_EffectHolds_effect_Ways_C (F : Fam_l30_EffectHolds) : Ct S := ⟨8, l30_EffectHolds_effect_Ways_q, fun R k a b c d e g => F.effect_Ways R a b c d e g (oK ⟨.tp [.t .marks, .i .i64], [], []⟩ k)⟩
def l30_EffectHolds_r16_Block_q : Pat S := ⟨[.t .act, y1], []⟩
noncomputable def l30_EffectHolds_r16_Block_C (F : Fam_l30_EffectHolds) : Ct S := ⟨10, l30_EffectHolds_r16_Block_q, fun R k a b c d e => F.r16_Block R a b c d e (oK ⟨.t .ins, [], []⟩ k)⟩
def l30_EffectHolds_r17_Run_q : Pat S := ⟨[.t .ins, .ag [.ns, .t .i64, .ns], .i .i64, .i .i64], []⟩
noncomputable def l30_EffectHolds_r17_Run_C (F : Fam_l30_EffectHolds) : Ct S := ⟨9, l30_EffectHolds_r17_Run_q, fun R k a b c d => F.r17_Run R a b c d (oK ⟨y5, [], []⟩ k)⟩
def l30_EffectHolds_l30_fits_q : Pat S := ⟨[.t .mark, y5], []⟩
noncomputable def l30_EffectHolds_l30_fits_C (F : Fam_l30_EffectHolds) : Ct S := ⟨11, l30_EffectHolds_l30_fits_q, fun R k a b c d e g h => F.l30_fits R a b c d e g h (oK ⟨.b, [], []⟩ k)⟩
structure Fam_l30_EffectHolds_ok (F : Fam_l30_EffectHolds) : Prop where
 l30_known : (l30_EffectHolds_l30_known_C F).ok E0
 r37_Block : (l30_EffectHolds_r37_Block_C F).ok E0
 r37_Place : (l30_EffectHolds_r37_Place_C F).ok E0
 effect_Ways : (l30_EffectHolds_effect_Ways_C F).okm E0
 r16_Block : (l30_EffectHolds_r16_Block_C F).ok E0
 r17_Run : (l30_EffectHolds_r17_Run_C F).ok E0
 l30_fits : (l30_EffectHolds_l30_fits_C F).ok E0
def l30_EffectHolds_q : Pat S := ⟨[.t .int, .i .i64, .i .i64, .i .i64, .i .i64], []⟩
noncomputable def l30_EffectHolds_l0_b (F : Fam_l30_EffectHolds) {R : Type} (N : Nat) (l_28 : List (List Mark)) (d_30 : Int) (d_31 : List Int) (d_32 : List Msg) (d_33 : List Effc) (d_34 d_35 : Int) (kp0 : Option R) (kp1 : Bool → Option R) (rec : Int → Option R) (i_29 : Int) : Option R :=
 if (decide (i_29 < ((l_28.length : Nat) : Int))) = true then
  ((at? l_28 i_29).bind fun e36 =>
 F.l30_fits _ e36 d_30 d_31 d_32 d_33 d_34 d_35 (fun r37 =>
 if r37 = true then
  (F.l30_known _ (fun r38 =>
  kp1 r38))
 else
  (rec (IntKind.wrap .i64 (i_29 + 1)))))
 else
  (kp0 )
noncomputable def l30_EffectHolds_l0 (F : Fam_l30_EffectHolds) {R : Type} (N : Nat) (l_28 : List (List Mark)) (d_30 : Int) (d_31 : List Int) (d_32 : List Msg) (d_33 : List Effc) (d_34 d_35 : Int) (kp0 : Option R) (kp1 : Bool → Option R) : Nat → Int → Option R
 | 0 => fun _ => none
 | n + 1 => fun i_29 => l30_EffectHolds_l0_b F N l_28 d_30 d_31 d_32 d_33 d_34 d_35 kp0 kp1 (l30_EffectHolds_l0 F N l_28 d_30 d_31 d_32 d_33 d_34 d_35 kp0 kp1 n) i_29
noncomputable def l30_EffectHolds_c7 (F : Fam_l30_EffectHolds) {R : Type} (N : Nat) (x_7 y_8 arg_9 : Int) (b_10 : List Act) (k_11 : Int) (l_12 : List (List Mark)) (e_13 : Int) (m_14 m_15 m_16 : List (List UInt8)) (m_17 : List Node) (kp0 : Bool → Option R) : Option R :=
 if (e_13 != 0) = true then
  ((ifB (e_13 == 15) true (some (((l_12.length : Nat) : Int) == 0)) (some false)).bind fun c18 =>
  (ifB c18 true (F.l30_known _ (fun r19 =>
  some r19)) (some false)).bind fun c20 =>
  kp0 c20)
 else
  (F.r16_Block _ b_10 m_14 m_15 m_16 m_17 (fun r21 =>
 F.r17_Run _ r21 [x_7, y_8] arg_9 k_11 (fun r22 r23 r24 r25 r26 r27 =>
 l30_EffectHolds_l0 F N l_12 r22 r23 r24 r25 r26 r27 (kp0 false)
  (fun y39 =>
 kp0 y39) N 0)))
noncomputable def l30_EffectHolds_d (F : Fam_l30_EffectHolds) {R : Type} (N : Nat) (v : List Int) (fuel x y arg : Int) (k0 : Bool → Option R) : Option R :=
 if (decide (((v.length : Nat) : Int) > 150)) = true then
  (F.l30_known _ (fun r1 =>
  k0 r1))
 else
  (F.r37_Block _ ([[120], [121]]) ([[112], [113]]) ([[116]]) ([] : List (List UInt8)) 2 v 0 (fun r2 r3 =>
 F.r37_Place _ fuel 80 (fun r4 =>
 F.effect_Ways _ r2 ([[120], [121]]) ([[112], [113]]) ([[116]]) ([] : List Node) r4 (fun r5 r6 =>
 l30_EffectHolds_c7 F N x y arg r2 r4 r5 r6 ([[120], [121]]) ([[112], [113]]) ([[116]]) ([] : List Node) (fun y40 =>
 k0 y40)))))
noncomputable def l30_EffectHolds_D (F : Fam_l30_EffectHolds) (hF : Fam_l30_EffectHolds_ok F) (N : Nat) : FD E0 := { f := 3, fn := Tryz.f3, q := l30_EffectHolds_q, loops := [{ cur := 0, live := [16, 18, 19], out := fun | .exit 0 => ([], []) | .ret => ([10], []) | _ => ([], []), q := ⟨[.t .marks, .p 0 0 0, .i .i64], [z38]⟩, G := fun R K n a b c d e g h i => l30_EffectHolds_l0 F N a c d e g h i (pK ⟨[], []⟩ (K (.exit 0))) (pK ⟨[.b], []⟩ (K .ret)) n b, B := fun R K rec a b c d e g h i => l30_EffectHolds_l0_b F N a c d e g h i (pK ⟨[], []⟩ (K (.exit 0))) (pK ⟨[.b], []⟩ (K .ret)) (fun b => rec a b c d e g h i) b }], cuts := [{ key := 7, live := [2, 3, 4, 13, 14, 15, 16, 17], out := fun | .ret => ([10], []) | _ => ([], []), q := ⟨[.i .i64, .i .i64, .i .i64, .p 0 0 0, .t .act, .i .i64, .t .marks, .i .i64], [z37]⟩, G := fun R K a b c d e g h i j l m => l30_EffectHolds_c7 F N a b c d e g h i j l m (pK ⟨[.b], []⟩ (K .ret)) }], g := [⟨l30_EffectHolds_l30_known_C F, hF.l30_known⟩, l30_named_S N, ⟨l30_EffectHolds_r37_Block_C F, hF.r37_Block⟩, ⟨l30_EffectHolds_r37_Place_C F, hF.r37_Place⟩, ⟨l30_EffectHolds_r17_Run_C F, hF.r17_Run⟩, ⟨l30_EffectHolds_r16_Block_C F, hF.r16_Block⟩, ⟨l30_EffectHolds_l30_fits_C F, hF.l30_fits⟩], gm := [⟨l30_EffectHolds_effect_Ways_C F, hF.effect_Ways⟩], nd := true }
theorem l30_EffectHolds_okF (F : Fam_l30_EffectHolds) (hF : Fam_l30_EffectHolds_ok F) (N : Nat) : Ct.okm E0 ⟨(l30_EffectHolds_D F hF N).f, (l30_EffectHolds_D F hF N).q, fun R k a b c d e => l30_EffectHolds_d F N a b c d e (oK ⟨.b, [], []⟩ k)⟩ := FD.ctm e0 (l30_EffectHolds_D F hF N) N (fun R k a b c d e => l30_EffectHolds_d F N a b c d e (oK ⟨.b, [], []⟩ k))
noncomputable def l30_EffectHolds_inst (N : Nat) : Fam_l30_EffectHolds where
 l30_known := fun R => l30_known N
 r37_Block := fun R => r37_Block N
 r37_Place := fun R => r37_Place N
 effect_Ways := fun R => effect_Ways N
 r16_Block := fun R => r16_Block N
 r17_Run := fun R => r17_Run N
 l30_fits := fun R => l30_fits N
theorem l30_EffectHolds_inst_ok (N : Nat) : Fam_l30_EffectHolds_ok (l30_EffectHolds_inst N) := { l30_known := (l30_known_S N).2, r37_Block := (r37_Block_S N).2, r37_Place := (r37_Place_S N).2, effect_Ways := (effect_Ways_S N).2, r16_Block := (r16_Block_S N).2, r17_Run := (r17_Run_S N).2, l30_fits := (l30_fits_S N).2 }
noncomputable def l30_EffectHolds {R : Type} (N : Nat) (v : List Int) (fuel x y arg : Int) (k0 : Bool → Option R) : Option R := l30_EffectHolds_d (l30_EffectHolds_inst N) N v fuel x y arg k0
theorem l30_EffectHolds_ok (N : Nat) : Ct.okm E0 ⟨(l30_EffectHolds_D (l30_EffectHolds_inst N) (l30_EffectHolds_inst_ok N) N).f, (l30_EffectHolds_D (l30_EffectHolds_inst N) (l30_EffectHolds_inst_ok N) N).q, fun R k a b c d e => l30_EffectHolds N a b c d e (oK ⟨.b, [], []⟩ k)⟩ := l30_EffectHolds_okF (l30_EffectHolds_inst N) (l30_EffectHolds_inst_ok N) N
end Ef
