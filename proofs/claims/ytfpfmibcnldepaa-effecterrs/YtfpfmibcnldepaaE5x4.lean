/- E5_4: a part of the proof of EffectErrs: lemmas on the evaluator and on the functions that the law reaches. -/
import Derived.Test.YtfpfmibcnldepaaE5x3
set_option maxRecDepth 100000
set_option linter.unusedVariables false
namespace Ef
open Go TE Go.Proofs
noncomputable def r17_running_reckon_c13 {R : Type} (N : Nat) (n_4 r_5 r_6 r_7 r_8 r_9 : Int) (o_10 : List Int) (kp0 : (List Int) → Option R) : Option R :=
  r17_running_put N n_4 r_5 r_6 r_7 r_8 r_9 o_10 (fun (r11 : List Int) =>
  kp0 r11)
noncomputable def r17_running_reckon {R : Type} (N : Nat) (Op A N_ : Int) (S : List UInt8) (Value Cost Code arg at_ : Int) (Vars : List Int) (k0 : Int → (List Int) → Option R) : Option R :=
  if (Op == 1) = true then
    (r17_running_put N N_ Value Cost Code arg at_ Vars (fun (r1 : List Int) =>
    k0 0 r1))
  else
    (if (Op == 2) = true then
      ((ifB (decide (A ≥ 0)) true (some (decide (A < ((Vars.length : Nat) : Int)))) (some false)).bind fun c2 =>
      if c2 = true then
        (if (0 : Int) ≤ A ∧ A < (Vars.length : Int) then (match Vars[A.toNat]? with
          | some e3 => (r17_running_reckon_c13 N e3 Value Cost Code arg at_ Vars (fun (y12 : List Int) =>
            k0 0 y12))
          | none => none) else none)
      else
        (r17_running_reckon_c13 N 0 Value Cost Code arg at_ Vars (fun (y13 : List Int) =>
        k0 0 y13)))
    else
      (if (Op == 3) = true then
        (r17_running_put N arg Value Cost Code arg at_ Vars (fun (r14 : List Int) =>
        k0 0 r14))
      else
        (if (Op == 4) = true then
          (r3_Has N A (fun (r15 : Bool) =>
          r17_truth N r15 (fun (r16 : Int) =>
          r17_running_put N r16 Value Cost Code arg at_ Vars (fun (r17 : List Int) =>
          k0 0 r17))))
        else
          (if (Op == 6) = true then
            (r17_truth N true (fun (r18 : Int) =>
            r17_running_put N r18 Value Cost Code arg at_ Vars (fun (r19 : List Int) =>
            k0 0 r19)))
          else
            (if (Op == 5) = true then
              (r1_Neg N 0 (fun (r20 : Int) (r21 : Int) =>
              r17_running_put N r20 Value Cost Code arg at_ Vars (fun (r22 : List Int) =>
              k0 r21 r22)))
            else
              (r17_two N Op 0 0 (fun (r23 : Int) (r24 : Int) =>
              r17_running_put N r23 Value Cost Code arg at_ Vars (fun (r25 : List Int) =>
              k0 r24 r25))))))))
noncomputable def r17_running_reckon_D (N : Nat) : FD E0 := { f := 42, fn := Try.f42, q := ⟨[.p 0 0 0, y3], [z9, .rw .i64 .own]⟩, cuts := [{ key := 13, live := [0, 5], out := fun | .normal => ([], []) | _ => ([], []), q := ⟨[.p 0 0 0, .i .i64], [z9, .rw .i64 .own]⟩, G := fun R K a b c d e g h => r17_running_reckon_c13 N a b c d e g h (pK ⟨[], [z10, .rw .i64 .own, .rw .i64 .own]⟩ (K .normal) b c d e g h) }], g := [r17_running_put_S N, r17_truth_S N, r3_Has_S N, r17_running_take_S N, r1_Neg_S N, r17_two_S N] }
def z11 : ShO S := .bx [.i .i64, .sw 1, .sw 2, .ns, .i .i64, .i .i64, .ns, .i .i64, .ns, .ns, .i .i64]
def z12 : ShO S := .bx [.i .i64, .sw 1, .ns, .sw 2, .i .i64, .i .i64, .ns, .i .i64, .ns, .ns, .i .i64]
noncomputable def r17_running_act_c4 {R : Type} (N : Nat) (n_1 r_2 r_3 r_4 r_5 r_6 : Int) (o_7 : List Int) (i_8 i_9 i_10 : Int) (i_11 : List UInt8) (kp0 : Int → (List Int) → Option R) (kp1 : Int → (List Msg) → Option R) (kp2 : Int → (List Effc) → Option R) : Option R :=
  if (i_8 == 18) = true then
    ((ifB (decide (i_9 ≥ 0)) true (some (decide (i_9 < ((o_7.length : Nat) : Int)))) (some false)).bind fun c12 =>
    if c12 = true then
      (if (0 : Int) ≤ i_9 ∧ i_9 < (o_7.length : Int) then (match o_7[i_9.toNat]? with
        | some e13 => (kp0 0 (o_7.set i_9.toNat n_1))
        | none => none) else none)
    else
      (kp0 0 o_7))
  else
    (if (i_8 == 19) = true then
      (if [(⟨i_11, n_1⟩ : Msg)].length ≤ maxRow then (kp1 0 [(⟨i_11, n_1⟩ : Msg)]) else none)
    else
      (if (i_8 == 20) = true then
        (if [(⟨1, i_9, (⟨i_11, n_1⟩ : Msg)⟩ : Effc)].length ≤ maxRow then (kp2 0 [(⟨1, i_9, (⟨i_11, n_1⟩ : Msg)⟩ : Effc)]) else none)
      else
        (if (i_8 == 21) = true then
          ((ifB (decide (n_1 < 1)) false (some (decide (n_1 > 65536))) (some true)).bind fun c14 =>
          if c14 = true then
            (kp0 1 o_7)
          else
            (if ([(⟨2, i_9, (⟨[], n_1⟩ : Msg)⟩ : Effc)]).length ≤ maxRow then (kp2 0 ([(⟨2, i_9, (⟨[], n_1⟩ : Msg)⟩ : Effc)])) else none))
        else
          (if (i_8 == 22) = true then
            (if ([(⟨3, i_9, (⟨[], 0⟩ : Msg)⟩ : Effc)]).length ≤ maxRow then (kp2 0 ([(⟨3, i_9, (⟨[], 0⟩ : Msg)⟩ : Effc)])) else none)
          else
            (kp0 0 o_7)))))
noncomputable def r17_running_act_D (N : Nat) : FD E0 := { f := 43, fn := Try.f43, q := ⟨[.p 0 0 0, y3], [z9, .rw .i64 .own]⟩, cuts := [{ key := 4, live := [0, 3, 5], out := fun | .ret => ([0, 4], []) | _ => ([], []), q := ⟨[.p 0 0 0, .p 2 0 0, .i .i64], [z9, .rw .i64 .own, z5]⟩, G := fun R K a b c d e g h i j l m => r17_running_act_c4 N a b c d e g h i j l m (fun o => pK ⟨[.p 0 0 0, .i .i64], [z9, .rw .i64 .own]⟩ (K .ret) o b c d e g) (fun o => pK ⟨[.p 0 0 0, .i .i64], [z11, .rw .i64 .own, .rw .msg .app]⟩ (K .ret) o b c d e g h) (fun o => pK ⟨[.p 0 0 0, .i .i64], [z12, .rw .i64 .own, .rw .effc .app]⟩ (K .ret) o b c d e g h) }], g := [r17_running_take_S N], exit := [(⟨0, [2]⟩, .row .msg .app), (⟨0, [3]⟩, .row .effc .app)] }
noncomputable def r17_running_put_2_D (N : Nat) : FD E0 := { f := 64, fn := Try.f64, q := ⟨[.p 0 0 0, .i .i64], [z10, .rw .i64 .own, .rw .i64 .own]⟩, mode := fun | 5 => .own | 10 => .own | 12 => .own | 13 => .own | _ => .app }
def z23 : ShO S := .bx [.i .i64, .sw 1, .sw 2, .sw 3, .i .i64, .i .i64, .ns, .i .i64, .sw 4, .sw 5, .i .i64]
def z25 : ShO S := .bx [.i .i64, .sw 1, .sw 2, .sw 3, .i .i64, .i .i64, .ns, .i .i64, .sw 6, .sw 5, .i .i64]
noncomputable def r17_running_put_4 {R : Type} (N : Nat) (n_ Value Cost Code arg at_ : Int) (Vars : List Int) (Raised : List Msg) (Effects : List Effc) (row rounds : List Int) (k0 : (List Int) → Option R) : Option R :=
  if ([] : List Int).length + row.length ≤ maxRow then (if (([] : List Int) ++ row).length + [n_].length ≤ maxRow then (k0 ((([] : List Int) ++ row) ++ [n_])) else none) else none
noncomputable def r17_running_put_4_D (N : Nat) : FD E0 := { f := 64, fn := Try.f64, q := ⟨[.p 0 0 0, .i .i64], [z23, .rw .i64 .own, .rw .msg .app, .rw .effc .app, .rw .i64 .own, .rw .i64 .own]⟩, mode := fun | 5 => .own | 10 => .own | 12 => .own | 13 => .own | _ => .app }
noncomputable def r17_running_put_4_S (N : Nat) : OC E0 := ⟨_, FD.ct e0 (r17_running_put_4_D N) N (fun R k a b c d e g h i j l m => r17_running_put_4 N a b c d e g h i j l m (oK ⟨.tp [], [z25, .rw .i64 .own, .rw .msg .app, .rw .effc .app, .rw .i64 .own, .rw .i64 .own], [.rw .i64 .own]⟩ k b c d e g h i j l m))⟩

noncomputable def r17_running_take_4 {R : Type} (N : Nat) (Value Cost Code arg at_ : Int) (Vars : List Int) (Raised : List Msg) (Effects : List Effc) (row rounds : List Int) (k0 : Int → (List Int) → Option R) : Option R :=
  if (((row.length : Nat) : Int) == 0) = true then
    (k0 0 row)
  else
    (if (0 : Int) ≤ IntKind.wrap .i64 (((row.length : Nat) : Int) - 1) ∧ IntKind.wrap .i64 (((row.length : Nat) : Int) - 1) < (row.length : Int) then (match row[(IntKind.wrap .i64 (((row.length : Nat) : Int) - 1)).toNat]? with
    | some e1 => (if (0 : Int) ≤ 0 ∧ 0 ≤ IntKind.wrap .i64 (((row.length : Nat) : Int) - 1) ∧ IntKind.wrap .i64 (((row.length : Nat) : Int) - 1) ≤ ((row.length : Nat) : Int) then (k0 e1 (row.take ((IntKind.wrap .i64 (((row.length : Nat) : Int) - 1)).toNat - (Int.toNat 0)))) else none)
    | none => none) else none)
noncomputable def r17_running_take_4_D (N : Nat) : FD E0 := { f := 67, fn := Try.f67, q := ⟨[.p 0 0 0], [z23, .rw .i64 .own, .rw .msg .app, .rw .effc .app, .rw .i64 .own, .rw .i64 .own]⟩, exit := [(⟨0, [8]⟩, .fresh .i64 .own)] }
noncomputable def r17_running_take_4_S (N : Nat) : OC E0 := ⟨_, FD.ct e0 (r17_running_take_4_D N) N (fun R k a b c d e g h i j l => r17_running_take_4 N a b c d e g h i j l (fun m => oK ⟨.i .i64, [z25, .rw .i64 .own, .rw .msg .app, .rw .effc .app, .g, .rw .i64 .own], [.rw .i64 .own]⟩ k m a b c d e g h i l))⟩

noncomputable def r17_running_reckon_4_c13 {R : Type} (N : Nat) (n_4 r_5 r_6 r_7 r_8 r_9 : Int) (o_10 : List Int) (o_11 : List Msg) (o_12 : List Effc) (o_13 o_14 : List Int) (kp0 : (List Int) → Option R) : Option R :=
  r17_running_put_4 N n_4 r_5 r_6 r_7 r_8 r_9 o_10 o_11 o_12 o_13 o_14 (fun (r15 : List Int) =>
  kp0 r15)
noncomputable def r17_running_reckon_4 {R : Type} (N : Nat) (Op A N_ : Int) (S : List UInt8) (Value Cost Code arg at_ : Int) (Vars : List Int) (Raised : List Msg) (Effects : List Effc) (row rounds : List Int) (k0 k1 : Int → (List Int) → Option R) : Option R :=
  if (Op == 1) = true then
    (r17_running_put_4 N N_ Value Cost Code arg at_ Vars Raised Effects row rounds (fun (r1 : List Int) =>
    k0 0 r1))
  else
    (if (Op == 2) = true then
      ((ifB (decide (A ≥ 0)) true (some (decide (A < ((Vars.length : Nat) : Int)))) (some false)).bind fun c2 =>
      if c2 = true then
        (if (0 : Int) ≤ A ∧ A < (Vars.length : Int) then (match Vars[A.toNat]? with
          | some e3 => (r17_running_reckon_4_c13 N e3 Value Cost Code arg at_ Vars Raised Effects row rounds (fun (y16 : List Int) =>
            k0 0 y16))
          | none => none) else none)
      else
        (r17_running_reckon_4_c13 N 0 Value Cost Code arg at_ Vars Raised Effects row rounds (fun (y17 : List Int) =>
        k0 0 y17)))
    else
      (if (Op == 3) = true then
        (r17_running_put_4 N arg Value Cost Code arg at_ Vars Raised Effects row rounds (fun (r18 : List Int) =>
        k0 0 r18))
      else
        (if (Op == 4) = true then
          (r3_Has N A (fun (r19 : Bool) =>
          r17_truth N r19 (fun (r20 : Int) =>
          r17_running_put_4 N r20 Value Cost Code arg at_ Vars Raised Effects row rounds (fun (r21 : List Int) =>
          k0 0 r21))))
        else
          (if (Op == 6) = true then
            (r17_running_take_4 N Value Cost Code arg at_ Vars Raised Effects row rounds (fun (r22 : Int) (r23 : List Int) =>
            r17_truth N (r22 == 0) (fun (r24 : Int) =>
            r17_running_put_4 N r24 Value Cost Code arg at_ Vars Raised Effects r23 rounds (fun (r25 : List Int) =>
            k1 0 r25))))
          else
            (if (Op == 5) = true then
              (r17_running_take_4 N Value Cost Code arg at_ Vars Raised Effects row rounds (fun (r26 : Int) (r27 : List Int) =>
              r1_Neg N r26 (fun (r28 : Int) (r29 : Int) =>
              r17_running_put_4 N r28 Value Cost Code arg at_ Vars Raised Effects r27 rounds (fun (r30 : List Int) =>
              k1 r29 r30))))
            else
              (r17_running_take_4 N Value Cost Code arg at_ Vars Raised Effects row rounds (fun (r31 : Int) (r32 : List Int) =>
              r17_running_take_4 N Value Cost Code arg at_ Vars Raised Effects r32 rounds (fun (r33 : Int) (r34 : List Int) =>
              r17_two N Op r33 r31 (fun (r35 : Int) (r36 : Int) =>
              r17_running_put_4 N r35 Value Cost Code arg at_ Vars Raised Effects r34 rounds (fun (r37 : List Int) =>
              k1 r36 r37))))))))))
noncomputable def r17_running_reckon_4_D (N : Nat) : FD E0 := { f := 42, fn := Try.f42, q := ⟨[.p 0 0 0, y3], [z23, .rw .i64 .own, .rw .msg .app, .rw .effc .app, .rw .i64 .own, .rw .i64 .own]⟩, cuts := [{ key := 13, live := [0, 5], out := fun | .normal => ([], []) | _ => ([], []), q := ⟨[.p 0 0 0, .i .i64], [z23, .rw .i64 .own, .rw .msg .app, .rw .effc .app, .rw .i64 .own, .rw .i64 .own]⟩, G := fun R K a b c d e g h i j l m => r17_running_reckon_4_c13 N a b c d e g h i j l m (pK ⟨[], [z25, .rw .i64 .own, .rw .msg .app, .rw .effc .app, .rw .i64 .own, .rw .i64 .own, .rw .i64 .own]⟩ (K .normal) b c d e g h i j l m) }], g := [r17_running_put_4_S N, r17_truth_S N, r3_Has_S N, r17_running_take_4_S N, r1_Neg_S N, r17_two_S N] }
noncomputable def r17_running_reckon_4_S (N : Nat) : OC E0 := ⟨_, FD.ct e0 (r17_running_reckon_4_D N) N (fun R k a b c d e g h i j l m o p q => r17_running_reckon_4 N a b c d e g h i j l m o p q (fun s => oK ⟨.i .i64, [z25, .rw .i64 .own, .rw .msg .app, .rw .effc .app, .rw .i64 .own, .rw .i64 .own], [.rw .i64 .own]⟩ k s e g h i j l m o p q) (fun s => oK ⟨.i .i64, [z25, .rw .i64 .own, .rw .msg .app, .rw .effc .app, .g, .rw .i64 .own], [.rw .i64 .own]⟩ k s e g h i j l m o q))⟩

def z26 : ShO S := .bx [.i .i64, .sw 1, .sw 6, .sw 3, .i .i64, .i .i64, .ns, .i .i64, .sw 7, .sw 5, .i .i64]
def z27 : ShO S := .bx [.i .i64, .sw 1, .sw 2, .sw 6, .i .i64, .i .i64, .ns, .i .i64, .sw 7, .sw 5, .i .i64]
noncomputable def r17_running_act_4_c4 {R : Type} (N : Nat) (n_3 r_4 r_5 r_6 r_7 r_8 : Int) (o_9 : List Int) (o_10 : List Msg) (o_11 : List Effc) (o_12 o_13 : List Int) (i_14 i_15 i_16 : Int) (i_17 : List UInt8) (kp0 : Int → (List Int) → Option R) (kp1 : Int → (List Msg) → Option R) (kp2 : Int → (List Effc) → Option R) : Option R :=
  if (i_14 == 18) = true then
    ((ifB (decide (i_15 ≥ 0)) true (some (decide (i_15 < ((o_9.length : Nat) : Int)))) (some false)).bind fun c18 =>
    if c18 = true then
      (if (0 : Int) ≤ i_15 ∧ i_15 < (o_9.length : Int) then (match o_9[i_15.toNat]? with
        | some e19 => (kp0 0 (o_9.set i_15.toNat n_3))
        | none => none) else none)
    else
      (kp0 0 o_9))
  else
    (if (i_14 == 19) = true then
      (if o_10.length + [(⟨i_17, n_3⟩ : Msg)].length ≤ maxRow then (kp1 0 (o_10 ++ [(⟨i_17, n_3⟩ : Msg)])) else none)
    else
      (if (i_14 == 20) = true then
        (if o_11.length + [(⟨1, i_15, (⟨i_17, n_3⟩ : Msg)⟩ : Effc)].length ≤ maxRow then (kp2 0 (o_11 ++ [(⟨1, i_15, (⟨i_17, n_3⟩ : Msg)⟩ : Effc)])) else none)
      else
        (if (i_14 == 21) = true then
          ((ifB (decide (n_3 < 1)) false (some (decide (n_3 > 65536))) (some true)).bind fun c20 =>
          if c20 = true then
            (kp0 1 o_9)
          else
            (if o_11.length + ([(⟨2, i_15, (⟨[], n_3⟩ : Msg)⟩ : Effc)]).length ≤ maxRow then (kp2 0 (o_11 ++ ([(⟨2, i_15, (⟨[], n_3⟩ : Msg)⟩ : Effc)]))) else none))
        else
          (if (i_14 == 22) = true then
            (if o_11.length + ([(⟨3, i_15, (⟨[], 0⟩ : Msg)⟩ : Effc)]).length ≤ maxRow then (kp2 0 (o_11 ++ ([(⟨3, i_15, (⟨[], 0⟩ : Msg)⟩ : Effc)]))) else none)
          else
            (kp0 0 o_9)))))
noncomputable def r17_running_act_4 {R : Type} (N : Nat) (Op A N_ : Int) (S : List UInt8) (Value Cost Code arg at_ : Int) (Vars : List Int) (Raised : List Msg) (Effects : List Effc) (row rounds : List Int) (k0 : Int → (List Int) → (List Int) → Option R) (k1 : Int → (List Msg) → (List Int) → Option R) (k2 : Int → (List Effc) → (List Int) → Option R) : Option R :=
  if (Op != 22) = true then
    (r17_running_take_4 N Value Cost Code arg at_ Vars Raised Effects row rounds (fun (r1 : Int) (r2 : List Int) =>
    r17_running_act_4_c4 N r1 Value Cost Code arg at_ Vars Raised Effects rounds r2 Op A N_ S (fun (y21 : Int) (y22 : List Int) =>
    k0 y21 y22 r2)
      (fun (y23 : Int) (y24 : List Msg) =>
    k1 y23 y24 r2)
      (fun (y25 : Int) (y26 : List Effc) =>
    k2 y25 y26 r2)))
  else
    (r17_running_act_4_c4 N 0 Value Cost Code arg at_ Vars Raised Effects rounds row Op A N_ S (fun (y27 : Int) (y28 : List Int) =>
    k0 y27 y28 row)
      (fun (y29 : Int) (y30 : List Msg) =>
    k1 y29 y30 row)
      (fun (y31 : Int) (y32 : List Effc) =>
    k2 y31 y32 row))
noncomputable def r17_running_act_4_D (N : Nat) : FD E0 := { f := 43, fn := Try.f43, q := ⟨[.p 0 0 0, y3], [z23, .rw .i64 .own, .rw .msg .app, .rw .effc .app, .rw .i64 .own, .rw .i64 .own]⟩, cuts := [{ key := 4, live := [0, 3, 5], fix := [(⟨0, [8]⟩, .fresh .i64 .own)], out := fun | .ret => ([4], []) | _ => ([], []), q := ⟨[.p 0 0 0, .p 7 0 0, .i .i64], [z25, .rw .i64 .own, .rw .msg .app, .rw .effc .app, .g, .rw .i64 .own, .rw .i64 .own, z5]⟩, G := fun R K a b c d e g h i j l m o p q s => r17_running_act_4_c4 N a b c d e g h i j l m o p q s (fun t u => pK ⟨[.i .i64], [z25, .rw .i64 .own, .rw .msg .app, .rw .effc .app, .g, .rw .i64 .own, .rw .i64 .own]⟩ (K .ret) t b c d e g u i j l m) (fun t u => pK ⟨[.i .i64], [z26, .rw .i64 .own, .rw .msg .ro, .rw .effc .app, .g, .rw .i64 .own, .rw .msg .app, .rw .i64 .own]⟩ (K .ret) t b c d e g h i j l u m) (fun t u => pK ⟨[.i .i64], [z27, .rw .i64 .own, .rw .msg .app, .rw .effc .ro, .g, .rw .i64 .own, .rw .effc .app, .rw .i64 .own]⟩ (K .ret) t b c d e g h i j l u m) }], g := [r17_running_take_4_S N] }
noncomputable def r17_running_act_4_S (N : Nat) : OC E0 := ⟨_, FD.ct e0 (r17_running_act_4_D N) N (fun R k a b c d e g h i j l m o p q => r17_running_act_4 N a b c d e g h i j l m o p q (fun s t => oK ⟨.i .i64, [z25, .rw .i64 .own, .rw .msg .app, .rw .effc .app, .g, .rw .i64 .own], [.rw .i64 .own]⟩ k s e g h i j t m o q) (fun s => oK ⟨.i .i64, [z26, .rw .i64 .own, .rw .msg .ro, .rw .effc .app, .g, .rw .i64 .own], [.rw .msg .app, .rw .i64 .own]⟩ k s e g h i j l m o q) (fun s => oK ⟨.i .i64, [z27, .rw .i64 .own, .rw .msg .app, .rw .effc .ro, .g, .rw .i64 .own], [.rw .effc .app, .rw .i64 .own]⟩ k s e g h i j l m o q))⟩

def z28 : ShO S := .bx [.i .i64, .sw 1, .sw 2, .sw 3, .i .i64, .i .i64, .ns, .i .i64, .sw 4, .sw 6, .i .i64]
def z29 : ShO S := .bx [.i .i64, .sw 1, .sw 2, .sw 3, .i .i64, .i .i64, .ns, .i .i64, .sw 6, .sw 7, .i .i64]
end Ef

