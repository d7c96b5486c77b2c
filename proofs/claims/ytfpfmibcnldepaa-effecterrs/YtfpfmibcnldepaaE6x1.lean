/- E6_1: a part of the proof of EffectErrs: lemmas on the evaluator and on the functions that the law reaches. -/
import Derived.Test.YtfpfmibcnldepaaE5x5
set_option maxRecDepth 100000
set_option linter.unusedVariables false
namespace Ef
open Go TE Go.Proofs
structure Fam_l30_EffectErrs where
  l30_known : (R : Type) → (Bool → Option R) → Option R
  r37_Expr : (R : Type) → (List (List UInt8)) → (List (List UInt8)) → (List (List UInt8)) → (List (List UInt8)) → Int → (List Int) → Int → (Int → Int → (List UInt8) → (List Expr) → Int → Int → Option R) → Option R
  r37_Place : (R : Type) → Int → Int → (Int → Option R) → Option R
  effect_Errs : (R : Type) → Int → Int → (List UInt8) → (List Expr) → Int → (List (List UInt8)) → (List (List UInt8)) → (List (List UInt8)) → (List Node) → Int → (Bool → Option R) → Option R
  r16_Guard : (R : Type) → Int → Int → (List UInt8) → (List Expr) → Int → (List (List UInt8)) → (List (List UInt8)) → (List (List UInt8)) → (List Node) → ((List Ins) → Option R) → Option R
  r17_Run : (R : Type) → (List Ins) → (List Int) → Int → Int → (Int → (List Int) → (List Msg) → (List Effc) → Int → Int → Option R) → Option R
  r30_Errs : (R : Type) → Int → Int → (List UInt8) → (List Expr) → Int → (List (List UInt8)) → (List (List UInt8)) → (List (List UInt8)) → (List Node) → Int → (Bool → Option R) → Option R

def l30_EffectErrs_l30_known_q : Pat S := ⟨[], []⟩
noncomputable def l30_EffectErrs_l30_known_C (F : Fam_l30_EffectErrs) : Ct S := ⟨7, l30_EffectErrs_l30_known_q, fun R k => F.l30_known R (oK ⟨.b, [], []⟩ k)⟩
def l30_EffectErrs_r37_Expr_q : Pat S := ⟨[.p 0 0 0, y0, .i .i64], [.bx [.t .int, .i .i64]]⟩
noncomputable def l30_EffectErrs_r37_Expr_C (F : Fam_l30_EffectErrs) : Ct S := ⟨15, l30_EffectErrs_r37_Expr_q, fun R k a b c d e g h => F.r37_Expr R a b c d e g h (fun i j l m o => oK ⟨y2, [.bx [.t .int, .i .i64]], []⟩ k i j l m o g)⟩
def l30_EffectErrs_r37_Place_q : Pat S := ⟨[.i .i64, .i .i64], []⟩
noncomputable def l30_EffectErrs_r37_Place_C (F : Fam_l30_EffectErrs) : Ct S := ⟨10, l30_EffectErrs_r37_Place_q, fun R k a b => F.r37_Place R a b (oK ⟨.i .i64, [], []⟩ k)⟩
def l30_EffectErrs_effect_Errs_q : Pat S := ⟨[y2, y1, .i .i64], []⟩
noncomputable def l30_EffectErrs_effect_Errs_C (F : Fam_l30_EffectErrs) : Ct S := ⟨16, l30_EffectErrs_effect_Errs_q, fun R k a b c d e g h i j l => F.effect_Errs R a b c d e g h i j l (oK ⟨.b, [], []⟩ k)⟩
def l30_EffectErrs_r16_Guard_q : Pat S := ⟨[y2, y1], []⟩
noncomputable def l30_EffectErrs_r16_Guard_C (F : Fam_l30_EffectErrs) : Ct S := ⟨18, l30_EffectErrs_r16_Guard_q, fun R k a b c d e g h i j => F.r16_Guard R a b c d e g h i j (oK ⟨.t .ins, [], []⟩ k)⟩
def l30_EffectErrs_r17_Run_q : Pat S := ⟨[.t .ins, .ag [.ns, .t .i64, .ns], .i .i64, .i .i64], []⟩
noncomputable def l30_EffectErrs_r17_Run_C (F : Fam_l30_EffectErrs) : Ct S := ⟨17, l30_EffectErrs_r17_Run_q, fun R k a b c d => F.r17_Run R a b c d (oK ⟨y5, [], []⟩ k)⟩
def l30_EffectErrs_r30_Errs_q : Pat S := ⟨[y2, y1, .i .i64], []⟩
noncomputable def l30_EffectErrs_r30_Errs_C (F : Fam_l30_EffectErrs) : Ct S := ⟨19, l30_EffectErrs_r30_Errs_q, fun R k a b c d e g h i j l => F.r30_Errs R a b c d e g h i j l (oK ⟨.b, [], []⟩ k)⟩
structure Fam_l30_EffectErrs_ok (F : Fam_l30_EffectErrs) : Prop where
  l30_known : (l30_EffectErrs_l30_known_C F).ok E0
  r37_Expr : (l30_EffectErrs_r37_Expr_C F).ok E0
  r37_Place : (l30_EffectErrs_r37_Place_C F).ok E0
  effect_Errs : (l30_EffectErrs_effect_Errs_C F).ok E0
  r16_Guard : (l30_EffectErrs_r16_Guard_C F).ok E0
  r17_Run : (l30_EffectErrs_r17_Run_C F).ok E0
  r30_Errs : (l30_EffectErrs_r30_Errs_C F).ok E0

def l30_EffectErrs_q : Pat S := ⟨[.t .int, .i .i64, .i .i64, .i .i64, .i .i64], []⟩
noncomputable def l30_EffectErrs_c7 (F : Fam_l30_EffectErrs) {R : Type} (N : Nat) (x_10 y_11 arg_12 k_13 : Int) (errs_14 : Bool) (m_15 m_16 m_17 : List (List UInt8)) (m_18 : List Node) (e_19 e_20 : Int) (e_21 : List UInt8) (e_22 : List Expr) (e_23 : Int) (kp0 : Bool → Option R) : Option R :=
  F.r16_Guard _ e_19 e_20 e_21 e_22 e_23 m_15 m_16 m_17 m_18 (fun (r24 : List Ins) =>
  F.r17_Run _ r24 [x_10, y_11] arg_12 k_13 (fun (r25 : Int) (r26 : List Int) (r27 : List Msg) (r28 : List Effc) (r29 : Int) (r30 : Int) =>
  F.r30_Errs _ e_19 e_20 e_21 e_22 e_23 m_15 m_16 m_17 m_18 k_13 (fun (r31 : Bool) =>
  (ifB (errs_14 == r31) true ((ifB errs_14 false (some (r30 == 0)) (some true)).bind fun c32 =>
  some c32) (some false)).bind fun c33 =>
  (ifB c33 true (F.l30_known _ (fun (r34 : Bool) =>
  some r34)) (some false)).bind fun c35 =>
  kp0 c35)))
noncomputable def l30_EffectErrs_d (F : Fam_l30_EffectErrs) {R : Type} (N : Nat) (v : List Int) (fuel x y arg : Int) (k0 : Bool → Option R) : Option R :=
  if (decide (((v.length : Nat) : Int) > 100)) = true then
    (F.l30_known _ (fun (r1 : Bool) =>
    k0 r1))
  else
    (F.r37_Expr _ ([[120], [121]]) ([[112], [113]]) ([[116]]) ([] : List (List UInt8)) 4 v 0 (fun (r2 : Int) (r3 : Int) (r4 : List UInt8) (r5 : List Expr) (r6 : Int) (r7 : Int) =>
  F.r37_Place _ fuel 60 (fun (r8 : Int) =>
  F.effect_Errs _ r2 r3 r4 r5 r6 ([[120], [121]]) ([[112], [113]]) ([[116]]) ([] : List Node) r8 (fun (r9 : Bool) =>
  l30_EffectErrs_c7 F N x y arg r8 r9 ([[120], [121]]) ([[112], [113]]) ([[116]]) ([] : List Node) r2 r3 r4 r5 r6 (fun (y36 : Bool) =>
  k0 y36)))))
noncomputable def l30_EffectErrs_D (F : Fam_l30_EffectErrs) (hF : Fam_l30_EffectErrs_ok F) (N : Nat) : FD E0 := { f := 4, fn := Try.f4, q := l30_EffectErrs_q, cuts := [{ key := 7, live := [2, 3, 4, 13, 14, 15, 16], out := fun | .ret => ([10], []) | _ => ([], []), q := ⟨[.i .i64, .i .i64, .i .i64, .p 0 0 0, .p 1 0 0, .i .i64, .b], [z1, z0]⟩, G := fun R K a b c d e g h i j l m o p q => l30_EffectErrs_c7 F N a b c d e g h i j l m o p q (pK ⟨[.b], []⟩ (K .ret)) }], g := [⟨l30_EffectErrs_l30_known_C F, hF.l30_known⟩, l30_named_S N, ⟨l30_EffectErrs_r37_Place_C F, hF.r37_Place⟩, ⟨l30_EffectErrs_r37_Expr_C F, hF.r37_Expr⟩, ⟨l30_EffectErrs_effect_Errs_C F, hF.effect_Errs⟩, ⟨l30_EffectErrs_r17_Run_C F, hF.r17_Run⟩, ⟨l30_EffectErrs_r16_Guard_C F, hF.r16_Guard⟩, ⟨l30_EffectErrs_r30_Errs_C F, hF.r30_Errs⟩] }
theorem l30_EffectErrs_okF (F : Fam_l30_EffectErrs) (hF : Fam_l30_EffectErrs_ok F) (N : Nat) : Ct.ok E0 ⟨(l30_EffectErrs_D F hF N).f, (l30_EffectErrs_D F hF N).q, fun R k a b c d e => l30_EffectErrs_d F N a b c d e (oK ⟨.b, [], []⟩ k)⟩ := FD.ct e0 (l30_EffectErrs_D F hF N) N (fun R k a b c d e => l30_EffectErrs_d F N a b c d e (oK ⟨.b, [], []⟩ k))
noncomputable def l30_EffectErrs_inst (N : Nat) : Fam_l30_EffectErrs where
  l30_known := fun R => l30_known N
  r37_Expr := fun R => r37_Expr N
  r37_Place := fun R => r37_Place N
  effect_Errs := fun R => effect_Errs N
  r16_Guard := fun R => r16_Guard N
  r17_Run := fun R => r17_Run N
  r30_Errs := fun R => r30_Errs N
theorem l30_EffectErrs_inst_ok (N : Nat) : Fam_l30_EffectErrs_ok (l30_EffectErrs_inst N) := { l30_known := (l30_known_S N).2, r37_Expr := (r37_Expr_S N).2, r37_Place := (r37_Place_S N).2, effect_Errs := (effect_Errs_S N).2, r16_Guard := (r16_Guard_S N).2, r17_Run := (r17_Run_S N).2, r30_Errs := (r30_Errs_S N).2 }
noncomputable def l30_EffectErrs {R : Type} (N : Nat) (v : List Int) (fuel x y arg : Int) (k0 : Bool → Option R) : Option R := l30_EffectErrs_d (l30_EffectErrs_inst N) N v fuel x y arg k0
theorem l30_EffectErrs_ok (N : Nat) : Ct.ok E0 ⟨(l30_EffectErrs_D (l30_EffectErrs_inst N) (l30_EffectErrs_inst_ok N) N).f, (l30_EffectErrs_D (l30_EffectErrs_inst N) (l30_EffectErrs_inst_ok N) N).q, fun R k a b c d e => l30_EffectErrs N a b c d e (oK ⟨.b, [], []⟩ k)⟩ := l30_EffectErrs_okF (l30_EffectErrs_inst N) (l30_EffectErrs_inst_ok N) N

end Ef

