/- E21_1: a part of the proof of EffectMany: lemmas on the evaluator and on the functions that the law reaches. -/
import Derived.Test.YtfpfmibcnldepaaE20x4
set_option maxRecDepth 100000
set_option linter.unusedVariables false
namespace Ef
open Go TE Go.Proofs
def y5 : Sh S := .ag [.t .str, .t .str, .t .str, .t .str]
noncomputable def l30_named {R : Type} (N : Nat)  (k0 : (List (List UInt8)) → (List (List UInt8)) → (List (List UInt8)) → (List (List UInt8)) → (List (List UInt8)) → (List (List UInt8)) → (List (List UInt8)) → (List Node) → (List (List UInt8)) → (List (List UInt8)) → (List (List UInt8)) → (List Node) → Option R) : Option R :=
  k0 ([[120], [121]]) ([[112], [113]]) ([[116]]) ([] : List (List UInt8)) ([[120], [121]]) ([[112], [113]]) ([[116]]) ([] : List Node) ([[120], [121]]) ([[112], [113]]) ([[116]]) ([] : List Node)
noncomputable def l30_named_D (N : Nat) : FD E0 := { f := 8, fn := Try.f8, q := ⟨[], []⟩, exit := [(⟨0, [0]⟩, .tree .str), (⟨0, [1]⟩, .tree .str), (⟨0, [2]⟩, .tree .str), (⟨0, [3]⟩, .tree .str), (⟨1, [0]⟩, .tree .str), (⟨1, [1]⟩, .tree .str), (⟨1, [2]⟩, .tree .str), (⟨1, [3]⟩, .tree .node), (⟨2, [0]⟩, .tree .str), (⟨2, [1]⟩, .tree .str), (⟨2, [2]⟩, .tree .str), (⟨2, [3]⟩, .tree .node)] }
noncomputable def l30_named_S (N : Nat) : OC E0 := ⟨_, FD.ct e0 (l30_named_D N) N (fun R k => l30_named N (oK ⟨.tp [y5, y4, y4], [], []⟩ k))⟩

structure Fam_l30_EffectMany where
  effect_Ways : (R : Type) → (List Act) → (List (List UInt8)) → (List (List UInt8)) → (List (List UInt8)) → (List Node) → Int → ((List (List Mark)) → Int → Option R) → Option R
  l30_known : (R : Type) → (Bool → Option R) → Option R

def l30_EffectMany_effect_Ways_q : Pat S := ⟨[.t .act, y4, .i .i64], []⟩
noncomputable def l30_EffectMany_effect_Ways_C (F : Fam_l30_EffectMany) : Ct S := ⟨11, l30_EffectMany_effect_Ways_q, fun R k a b c d e g => F.effect_Ways R a b c d e g (oK ⟨.tp [.t .marks, .i .i64], [], []⟩ k)⟩
def l30_EffectMany_l30_known_q : Pat S := ⟨[], []⟩
noncomputable def l30_EffectMany_l30_known_C (F : Fam_l30_EffectMany) : Ct S := ⟨7, l30_EffectMany_l30_known_q, fun R k => F.l30_known R (oK ⟨.b, [], []⟩ k)⟩
structure Fam_l30_EffectMany_ok (F : Fam_l30_EffectMany) : Prop where
  effect_Ways : (l30_EffectMany_effect_Ways_C F).okm E0
  l30_known : (l30_EffectMany_l30_known_C F).ok E0

def l30_EffectMany_q : Pat S := ⟨[.i .u8, .b], []⟩
def z10 : ShO S := .bx [.t .str, .t .str, .t .str, .t .node]
noncomputable def l30_EffectMany_c10 (F : Fam_l30_EffectMany) {R : Type} (N : Nat) (same_9 : Bool) (k_10 i_11 : Int) (e_12 : List UInt8) (m_13 m_14 m_15 : List (List UInt8)) (m_16 : List Node) (b_17 : List Act) (kp0 : (List Act) → Option R) : Option R :=
  if b_17.length + ([(⟨6, [], [], [(⟨3, 0, [], [], 0⟩ : Expr)], 0, [(⟨2, [], e_12, [], 0, [], [], 0⟩ : Act)], [], 0⟩ : Act)]).length ≤ maxRow then (kp0 (b_17 ++ ([(⟨6, [], [], [(⟨3, 0, [], [], 0⟩ : Expr)], 0, [(⟨2, [], e_12, [], 0, [], [], 0⟩ : Act)], [], 0⟩ : Act)]))) else none
noncomputable def l30_EffectMany_l0_b (F : Fam_l30_EffectMany) {R : Type} (N : Nat) (same_1 : Bool) (k_2 : Int) (m_4 m_5 m_6 : List (List UInt8)) (m_7 : List Node) (kp0 : (List Act) → Option R) (rec : Int → (List Act) → Option R) (i_3 : Int) (b_8 : List Act) : Option R :=
  if (decide (i_3 < k_2)) = true then
    (if (!same_1) = true then
    (l30_EffectMany_c10 F N same_1 k_2 i_3 ([IntKind.wrap .u8 (IntKind.wrap .i64 (97 + i_3))].map fun (n : Int) => UInt8.ofNat n.toNat) m_4 m_5 m_6 m_7 b_8 (fun (y18 : List Act) =>
    rec (IntKind.wrap .i64 (i_3 + 1)) y18))
  else
    (l30_EffectMany_c10 F N same_1 k_2 i_3 [101] m_4 m_5 m_6 m_7 b_8 (fun (y19 : List Act) =>
    rec (IntKind.wrap .i64 (i_3 + 1)) y19)))
  else
    (kp0 b_8)
noncomputable def l30_EffectMany_l0 (F : Fam_l30_EffectMany) {R : Type} (N : Nat) (same_1 : Bool) (k_2 : Int) (m_4 m_5 m_6 : List (List UInt8)) (m_7 : List Node) (kp0 : (List Act) → Option R) : Nat → Int → (List Act) → Option R
  | 0 => fun _ _ => none
  | n + 1 => fun i_3 b_8 => l30_EffectMany_l0_b F N same_1 k_2 m_4 m_5 m_6 m_7 kp0 (l30_EffectMany_l0 F N same_1 k_2 m_4 m_5 m_6 m_7 kp0 n) i_3 b_8
noncomputable def l30_EffectMany_c15 (F : Fam_l30_EffectMany) {R : Type} (N : Nat) (l_23 : List (List Mark)) (e_24 want_25 : Int) (kp0 : Bool → Option R) : Option R :=
  if (decide (want_25 > 64)) = true then
    ((ifB (e_24 == 15) true (some (((l_23.length : Nat) : Int) == 0)) (some false)).bind fun c26 =>
    (ifB c26 true (F.l30_known _ (fun (r27 : Bool) =>
    some r27)) (some false)).bind fun c28 =>
    kp0 c28)
  else
    ((ifB (e_24 == 0) true (some (((l_23.length : Nat) : Int) == want_25)) (some false)).bind fun c29 =>
  (ifB c29 true (F.l30_known _ (fun (r30 : Bool) =>
  some r30)) (some false)).bind fun c31 =>
  kp0 c31)
noncomputable def l30_EffectMany_d (F : Fam_l30_EffectMany) {R : Type} (N : Nat) (n_ : Int) (same : Bool) (k0 : Bool → Option R) : Option R :=
  l30_EffectMany_l0 F N same (Int.tmod (IntKind.wrap .i64 n_) 10) ([[120], [121]]) ([[112], [113]]) ([[116]]) ([] : List Node) (fun (y20 : List Act) =>
  F.effect_Ways _ y20 ([[120], [121]]) ([[112], [113]]) ([[116]]) ([] : List Node) 5000 (fun (r21 : List (List Mark)) (r22 : Int) =>
  if (!same) = true then
    (if IntKind.wrap .u64 (Int.tmod (IntKind.wrap .i64 n_) 10) < 0 then none else (l30_EffectMany_c15 F N r21 r22 (IntKind.wrap .i64 (1 * 2 ^ (min (IntKind.wrap .u64 (Int.tmod (IntKind.wrap .i64 n_) 10)).toNat (IntKind.bits .i64)))) (fun (y32 : Bool) =>
      k0 y32)))
  else
    (l30_EffectMany_c15 F N r21 r22 (IntKind.wrap .i64 ((Int.tmod (IntKind.wrap .i64 n_) 10) + 1)) (fun (y33 : Bool) =>
    k0 y33)))) N 0 ([] : List Act)
noncomputable def l30_EffectMany_D (F : Fam_l30_EffectMany) (hF : Fam_l30_EffectMany_ok F) (N : Nat) : FD E0 := { f := 5, fn := Try.f5, q := l30_EffectMany_q, loops := [{ cur := 0, live := [1, 6, 8, 9, 10], fix := [(⟨9, []⟩, .row .act .app)], out := fun | .exit 0 => ([1, 6, 8, 9], []) | _ => ([], []), q := ⟨[.b, .p 0 0 0, .i .i64, .sw 1, .i .i64], [z10, .rw .act .app]⟩, G := fun R K n a b c d e g h i => l30_EffectMany_l0 F N a b d e g h (pK ⟨[.b, .p 0 0 0, .i .i64, .sw 1], [z10, .rw .act .app]⟩ (K (.exit 0)) a b d e g h) n c i, B := fun R K rec a b c d e g h i => l30_EffectMany_l0_b F N a b d e g h (pK ⟨[.b, .p 0 0 0, .i .i64, .sw 1], [z10, .rw .act .app]⟩ (K (.exit 0)) a b d e g h) (fun c i => rec a b c d e g h i) c i }], cuts := [{ key := 10, live := [1, 6, 8, 9, 10, 11], fix := [(⟨9, []⟩, .row .act .app)], out := fun | .normal => ([1, 6, 8, 9, 10], []) | _ => ([], []), q := ⟨[.b, .p 0 0 0, .i .i64, .sw 1, .i .i64, .st], [z10, .rw .act .app]⟩, G := fun R K a b c d e g h i j => l30_EffectMany_c10 F N a b c d e g h i j (pK ⟨[.b, .p 0 0 0, .i .i64, .sw 1, .i .i64], [z10, .rw .act .app]⟩ (K .normal) a b c e g h i) }, { key := 15, live := [12, 13, 14], out := fun | .ret => ([4], []) | _ => ([], []), q := ⟨[.t .marks, .i .i64, .i .i64], []⟩, G := fun R K a b c => l30_EffectMany_c15 F N a b c (pK ⟨[.b], []⟩ (K .ret)) }], g := [⟨l30_EffectMany_l30_known_C F, hF.l30_known⟩, l30_named_S N], gm := [⟨l30_EffectMany_effect_Ways_C F, hF.effect_Ways⟩], nd := true }
theorem l30_EffectMany_okF (F : Fam_l30_EffectMany) (hF : Fam_l30_EffectMany_ok F) (N : Nat) : Ct.okm E0 ⟨(l30_EffectMany_D F hF N).f, (l30_EffectMany_D F hF N).q, fun R k a b => l30_EffectMany_d F N a b (oK ⟨.b, [], []⟩ k)⟩ := FD.ctm e0 (l30_EffectMany_D F hF N) N (fun R k a b => l30_EffectMany_d F N a b (oK ⟨.b, [], []⟩ k))
noncomputable def l30_EffectMany_inst (N : Nat) : Fam_l30_EffectMany where
  effect_Ways := fun R => effect_Ways N
  l30_known := fun R => l30_known N
theorem l30_EffectMany_inst_ok (N : Nat) : Fam_l30_EffectMany_ok (l30_EffectMany_inst N) := { effect_Ways := (effect_Ways_S N).2, l30_known := (l30_known_S N).2 }
noncomputable def l30_EffectMany {R : Type} (N : Nat) (n_ : Int) (same : Bool) (k0 : Bool → Option R) : Option R := l30_EffectMany_d (l30_EffectMany_inst N) N n_ same k0
theorem l30_EffectMany_ok (N : Nat) : Ct.okm E0 ⟨(l30_EffectMany_D (l30_EffectMany_inst N) (l30_EffectMany_inst_ok N) N).f, (l30_EffectMany_D (l30_EffectMany_inst N) (l30_EffectMany_inst_ok N) N).q, fun R k a b => l30_EffectMany N a b (oK ⟨.b, [], []⟩ k)⟩ := l30_EffectMany_okF (l30_EffectMany_inst N) (l30_EffectMany_inst_ok N) N

end Ef
