/- E2_1: a part of the proof of EffectMany: lemmas on the evaluator and on the functions that the law reaches. -/
import Derived.Test.YtfpfmibcnldepaaE1x1
set_option maxRecDepth 100000
set_option linter.unusedVariables false
namespace Ef
open Go TE Go.Proofs
noncomputable def l30_EffectOrder_c2 {R : Type} (N : Nat) (a_1 b_2 : List Mark) (v_3 : Bool) (kp0 : Bool → Option R) (kp1 : Option R) : Option R :=
  if v_3 = true then
    (l30_known N (fun (r4 : Bool) =>
    kp0 r4))
  else
    (kp1 )
noncomputable def l30_EffectOrder_c3 {R : Type} (N : Nat) (a_6 b_7 : List Mark) (kp0 : Bool → Option R) : Option R :=
  l30_marks N a_6 (fun (r8 : List Mark) =>
  l30_marks N b_7 (fun (r9 : List Mark) =>
  effect_Less N a_6 b_7 (fun (r10 : Bool) =>
  r30_Less N r8 r9 (fun (r11 : Bool) =>
  if ((r10 == r11) == true) = true then
    (effect_Less N a_6 a_6 (fun (r12 : Bool) =>
    if ((!r12) == true) = true then
      (effect_Less N a_6 b_7 (fun (r13 : Bool) =>
      if (r13 == true) = true then
        (effect_Less N b_7 a_6 (fun (r14 : Bool) =>
        if ((!r14) == true) = true then
          (if ((((b_7.length : Nat) : Int) == 0) == false) = true then
            (if ([] : List Mark).length + a_6.length ≤ maxRow then (if (([] : List Mark) ++ a_6).length + b_7.length ≤ maxRow then (effect_Less N a_6 ((([] : List Mark) ++ a_6) ++ b_7) (fun (r15 : Bool) =>
                if (r15 == true) = true then
                  (l30_known N (fun (r16 : Bool) =>
                  kp0 r16))
                else
                  (kp0 false))) else none) else none)
          else
            (l30_known N (fun (r17 : Bool) =>
            kp0 r17)))
        else
          (kp0 false)))
      else
        (if ((((b_7.length : Nat) : Int) == 0) == false) = true then
          (if ([] : List Mark).length + a_6.length ≤ maxRow then (if (([] : List Mark) ++ a_6).length + b_7.length ≤ maxRow then (effect_Less N a_6 ((([] : List Mark) ++ a_6) ++ b_7) (fun (r18 : Bool) =>
              if (r18 == true) = true then
                (l30_known N (fun (r19 : Bool) =>
                kp0 r19))
              else
                (kp0 false))) else none) else none)
        else
          (l30_known N (fun (r20 : Bool) =>
          kp0 r20)))))
    else
      (kp0 false)))
  else
    (kp0 false)))))
noncomputable def l30_EffectOrder {R : Type} (N : Nat) (a b : List Mark) (k0 : Bool → Option R) : Option R :=
  if ((decide (((a.length : Nat) : Int) > 60)) == false) = true then
    (l30_EffectOrder_c2 N a b (decide (((b.length : Nat) : Int) > 60)) (fun (y5 : Bool) =>
    k0 y5)
      (l30_EffectOrder_c3 N a b (fun (y21 : Bool) =>
      k0 y21)))
  else
    (l30_EffectOrder_c2 N a b true (fun (y22 : Bool) =>
    k0 y22)
      (l30_EffectOrder_c3 N a b (fun (y23 : Bool) =>
      k0 y23)))
noncomputable def l30_EffectOrder_D (N : Nat) : FD E0 := { f := 6, fn := Try.f6, q := ⟨[.t .mark, .t .mark], []⟩, cuts := [{ key := 2, live := [0, 1, 14], out := fun | .ret => ([4], []) | .normal => ([0, 1], []) | _ => ([], []), q := ⟨[.t .mark, .t .mark, .b], []⟩, G := fun R K a b c => l30_EffectOrder_c2 N a b c (pK ⟨[.b], []⟩ (K .ret)) (pK ⟨[.t .mark, .t .mark], []⟩ (K .normal) a b) }, { key := 3, live := [0, 1], out := fun | .ret => ([4], []) | _ => ([], []), q := ⟨[.t .mark, .t .mark], []⟩, G := fun R K a b => l30_EffectOrder_c3 N a b (pK ⟨[.b], []⟩ (K .ret)) }], g := [l30_known_S N, l30_marks_S N, effect_Less_S N, r30_Less_S N], fork := true }
noncomputable def l30_EffectOrder_S (N : Nat) : OC E0 := ⟨_, FD.ct e0 (l30_EffectOrder_D N) N (fun R k a b => l30_EffectOrder N a b (oK ⟨.b, [], []⟩ k))⟩

end Ef
