/- E5_2: a part of the proof of EffectErrs: lemmas on the evaluator and on the functions that the law reaches. -/
import Derived.Test.YtfpfmibcnldepaaE5x1
set_option maxRecDepth 100000
set_option linter.unusedVariables false
namespace Ef
open Go TE Go.Proofs
noncomputable def r16_expr_c12 (F : Fam_r16_expr) {R : Type} (N : Nat) (v_3 : Int) (v_4 : Bool) (e_5 e_6 : Int) (e_7 : List UInt8) (e_8 : List Expr) (e_9 : Int) (n_10 n_11 n_12 : List (List UInt8)) (n_13 : List Node) (kp0 : (List Ins) → Option R) (kp1 : Option R) : Option R :=
  if v_4 = true then
    ((at? e_8 0).bind fun e14 =>
    F.r16_expr _ e14.Kind e14.N e14.Name e14.Kids e14.At n_10 n_11 n_12 n_13 (fun (r15 : List Ins) =>
    r16_op N e_5 (fun (r16 : Int) =>
    if r15.length + ([(⟨r16, 0, 0, []⟩ : Ins)]).length ≤ maxRow then (kp0 (r15 ++ ([(⟨r16, 0, 0, []⟩ : Ins)]))) else none)))
  else
    (if (v_3 == 18) = true then
      (F.r16_and _ e_5 e_6 e_7 e_8 e_9 n_10 n_11 n_12 n_13 (fun (r17 : List Ins) =>
      kp0 r17))
    else
      (if (v_3 == 19) = true then
        (F.r16_or _ e_5 e_6 e_7 e_8 e_9 n_10 n_11 n_12 n_13 (fun (r18 : List Ins) =>
        kp0 r18))
      else
        (kp1 )))
noncomputable def r16_expr_c17 (F : Fam_r16_expr) {R : Type} (N : Nat) (e_20 e_21 : Int) (e_22 : List UInt8) (e_23 : List Expr) (e_24 : Int) (n_25 n_26 n_27 : List (List UInt8)) (n_28 : List Node) (kp0 : (List Ins) → Option R) : Option R :=
  (at? e_23 0).bind fun e29 =>
  F.r16_expr _ e29.Kind e29.N e29.Name e29.Kids e29.At n_25 n_26 n_27 n_28 (fun (r30 : List Ins) =>
  (at? e_23 1).bind fun e31 =>
  r16_expr_2 N e31.Kind e31.N e31.Name e31.Kids e31.At n_25 n_26 n_27 n_28 r30 (fun (r32 : List Ins) =>
  r16_op N e_20 (fun (r33 : Int) =>
  if r32.length + ([(⟨r33, 0, 0, []⟩ : Ins)]).length ≤ maxRow then (kp0 (r32 ++ ([(⟨r33, 0, 0, []⟩ : Ins)]))) else none)))
noncomputable def r16_expr_d (F : Fam_r16_expr) {R : Type} (N : Nat) (Kind N_ : Int) (Name : List UInt8) (Kids : List Expr) (At : Int) (Vars Ports Timers : List (List UInt8)) (Nodes : List Node) (k0 : (List Ins) → Option R) : Option R :=
  if (Kind == 1) = true then
    (if ([(⟨1, 0, N_, []⟩ : Ins)]).length ≤ maxRow then (k0 ([(⟨1, 0, N_, []⟩ : Ins)])) else none)
  else
    (if (Kind == 2) = true then
      (r16_place N Vars Name (fun (r1 : Int) =>
      if ([(⟨2, r1, 0, []⟩ : Ins)]).length ≤ maxRow then (k0 ([(⟨2, r1, 0, []⟩ : Ins)])) else none))
    else
      (if (Kind == 3) = true then
        (if ([(⟨3, 0, 0, []⟩ : Ins)]).length ≤ maxRow then (k0 ([(⟨3, 0, 0, []⟩ : Ins)])) else none)
      else
        (if (Kind == 4) = true then
          (r13_Find N Nodes Name (fun (r2 : Int) =>
          if ([(⟨4, r2, 0, []⟩ : Ins)]).length ≤ maxRow then (k0 ([(⟨4, r2, 0, []⟩ : Ins)])) else none))
        else
          (if (Kind == 5) = true then
            (r16_expr_c12 F N Kind (Kind == 5) Kind N_ Name Kids At Vars Ports Timers Nodes (fun (y19 : List Ins) =>
            k0 y19)
              (r16_expr_c17 F N Kind N_ Name Kids At Vars Ports Timers Nodes (fun (y34 : List Ins) =>
              k0 y34)))
          else
            (r16_expr_c12 F N Kind (Kind == 6) Kind N_ Name Kids At Vars Ports Timers Nodes (fun (y35 : List Ins) =>
            k0 y35)
              (r16_expr_c17 F N Kind N_ Name Kids At Vars Ports Timers Nodes (fun (y36 : List Ins) =>
              k0 y36)))))))
noncomputable def r16_expr_D (F : Fam_r16_expr) (hF : Fam_r16_expr_ok F) (N : Nat) : FD E0 := { f := 45, fn := Try.f45, q := r16_expr_q, cuts := [{ key := 12, live := [0, 4, 5, 8, 45], out := fun | .ret => ([6], []) | .normal => ([0, 4, 5], []) | _ => ([], []), q := ⟨[.ns, .p 0 0 0, .p 1 0 0, .i .i64, .b], [z0, z1]⟩, G := fun R K a b c d e g h i j l m => r16_expr_c12 F N a b c d e g h i j l m (pK ⟨[.sw 0], [.rw .ins .own]⟩ (K .ret)) (pK ⟨[.ns, .p 0 0 0, .p 1 0 0], [z0, z1]⟩ (K .normal) c d e g h i j l m) }, { key := 17, live := [0, 4, 5], out := fun | .ret => ([6], []) | _ => ([], []), q := ⟨[.ns, .p 0 0 0, .p 1 0 0], [z0, z1]⟩, G := fun R K a b c d e g h i j => r16_expr_c17 F N a b c d e g h i j (pK ⟨[.sw 0], [.rw .ins .own]⟩ (K .ret)) }], g := [⟨r16_expr_C F, hF.r16_expr⟩, r16_expr_2_S N, r16_place_S N, r13_Find_S N, r16_op_S N, ⟨r16_and_C F, hF.r16_and⟩, ⟨r16_or_C F, hF.r16_or⟩], mode := fun | 15 => .own | 16 => .own | 26 => .own | 27 => .own | 32 => .own | 33 => .own | 43 => .own | 44 => .own | 59 => .own | 60 => .own | 90 => .own | 91 => .own | _ => .app }
theorem r16_expr_okF (F : Fam_r16_expr) (hF : Fam_r16_expr_ok F) (N : Nat) : Ct.ok E0 ⟨(r16_expr_D F hF N).f, (r16_expr_D F hF N).q, fun R k a b c d e g h i j => r16_expr_d F N a b c d e g h i j (oK ⟨.sw 0, [], [.rw .ins .own]⟩ k)⟩ := FD.ct e0 (r16_expr_D F hF N) N (fun R k a b c d e g h i j => r16_expr_d F N a b c d e g h i j (oK ⟨.sw 0, [], [.rw .ins .own]⟩ k))

noncomputable def r16_and_d (F : Fam_r16_expr) {R : Type} (N : Nat) (Kind N_ : Int) (Name : List UInt8) (Kids : List Expr) (At : Int) (Vars Ports Timers : List (List UInt8)) (Nodes : List Node) (k0 : (List Ins) → Option R) : Option R :=
  (at? Kids 0).bind fun e1 =>
  F.r16_expr _ e1.Kind e1.N e1.Name e1.Kids e1.At Vars Ports Timers Nodes (fun (r2 : List Ins) =>
  if r2.length + ([(⟨24, 0, 0, []⟩ : Ins)]).length ≤ maxRow then ((at? Kids 1).bind fun e3 =>
  r16_expr_2 N e3.Kind e3.N e3.Name e3.Kids e3.At Vars Ports Timers Nodes (r2 ++ ([(⟨24, 0, 0, []⟩ : Ins)])) (fun (r4 : List Ins) =>
  if r4.length + ([(⟨24, 0, 0, []⟩ : Ins), (⟨1, 0, 1, []⟩ : Ins), (⟨23, 0, 0, []⟩ : Ins)]).length ≤ maxRow then (if (0 : Int) ≤ ((r2.length : Nat) : Int) ∧ ((r2.length : Nat) : Int) < ((r4 ++ ([(⟨24, 0, 0, []⟩ : Ins), (⟨1, 0, 1, []⟩ : Ins), (⟨23, 0, 0, []⟩ : Ins)])).length : Int) then (match (r4 ++ ([(⟨24, 0, 0, []⟩ : Ins), (⟨1, 0, 1, []⟩ : Ins), (⟨23, 0, 0, []⟩ : Ins)]))[((r2.length : Nat) : Int).toNat]? with
    | some e5 => (if (0 : Int) ≤ ((r4.length : Nat) : Int) ∧ ((r4.length : Nat) : Int) < (((r4 ++ ([(⟨24, 0, 0, []⟩ : Ins), (⟨1, 0, 1, []⟩ : Ins), (⟨23, 0, 0, []⟩ : Ins)])).set (((r2.length : Nat) : Int).toNat) (⟨e5.Op, (((r4 ++ ([(⟨24, 0, 0, []⟩ : Ins), (⟨1, 0, 1, []⟩ : Ins), (⟨23, 0, 0, []⟩ : Ins)])).length : Nat) : Int), e5.N, e5.S⟩ : Ins)).length : Int) then (match ((r4 ++ ([(⟨24, 0, 0, []⟩ : Ins), (⟨1, 0, 1, []⟩ : Ins), (⟨23, 0, 0, []⟩ : Ins)])).set (((r2.length : Nat) : Int).toNat) (⟨e5.Op, (((r4 ++ ([(⟨24, 0, 0, []⟩ : Ins), (⟨1, 0, 1, []⟩ : Ins), (⟨23, 0, 0, []⟩ : Ins)])).length : Nat) : Int), e5.N, e5.S⟩ : Ins))[((r4.length : Nat) : Int).toNat]? with
        | some e6 => (if (((r4 ++ ([(⟨24, 0, 0, []⟩ : Ins), (⟨1, 0, 1, []⟩ : Ins), (⟨23, 0, 0, []⟩ : Ins)])).set (((r2.length : Nat) : Int).toNat) (⟨e5.Op, (((r4 ++ ([(⟨24, 0, 0, []⟩ : Ins), (⟨1, 0, 1, []⟩ : Ins), (⟨23, 0, 0, []⟩ : Ins)])).length : Nat) : Int), e5.N, e5.S⟩ : Ins)).set (((r4.length : Nat) : Int).toNat) (⟨e6.Op, (((r4 ++ ([(⟨24, 0, 0, []⟩ : Ins), (⟨1, 0, 1, []⟩ : Ins), (⟨23, 0, 0, []⟩ : Ins)])).length : Nat) : Int), e6.N, e6.S⟩ : Ins)).length + ([(⟨1, 0, 0, []⟩ : Ins)]).length ≤ maxRow then (if (0 : Int) ≤ IntKind.wrap .i64 (((r4.length : Nat) : Int) + 2) ∧ IntKind.wrap .i64 (((r4.length : Nat) : Int) + 2) < (((((r4 ++ ([(⟨24, 0, 0, []⟩ : Ins), (⟨1, 0, 1, []⟩ : Ins), (⟨23, 0, 0, []⟩ : Ins)])).set (((r2.length : Nat) : Int).toNat) (⟨e5.Op, (((r4 ++ ([(⟨24, 0, 0, []⟩ : Ins), (⟨1, 0, 1, []⟩ : Ins), (⟨23, 0, 0, []⟩ : Ins)])).length : Nat) : Int), e5.N, e5.S⟩ : Ins)).set (((r4.length : Nat) : Int).toNat) (⟨e6.Op, (((r4 ++ ([(⟨24, 0, 0, []⟩ : Ins), (⟨1, 0, 1, []⟩ : Ins), (⟨23, 0, 0, []⟩ : Ins)])).length : Nat) : Int), e6.N, e6.S⟩ : Ins)) ++ ([(⟨1, 0, 0, []⟩ : Ins)])).length : Int) then (match ((((r4 ++ ([(⟨24, 0, 0, []⟩ : Ins), (⟨1, 0, 1, []⟩ : Ins), (⟨23, 0, 0, []⟩ : Ins)])).set (((r2.length : Nat) : Int).toNat) (⟨e5.Op, (((r4 ++ ([(⟨24, 0, 0, []⟩ : Ins), (⟨1, 0, 1, []⟩ : Ins), (⟨23, 0, 0, []⟩ : Ins)])).length : Nat) : Int), e5.N, e5.S⟩ : Ins)).set (((r4.length : Nat) : Int).toNat) (⟨e6.Op, (((r4 ++ ([(⟨24, 0, 0, []⟩ : Ins), (⟨1, 0, 1, []⟩ : Ins), (⟨23, 0, 0, []⟩ : Ins)])).length : Nat) : Int), e6.N, e6.S⟩ : Ins)) ++ ([(⟨1, 0, 0, []⟩ : Ins)]))[(IntKind.wrap .i64 (((r4.length : Nat) : Int) + 2)).toNat]? with
    | some e7 => (k0 (((((r4 ++ ([(⟨24, 0, 0, []⟩ : Ins), (⟨1, 0, 1, []⟩ : Ins), (⟨23, 0, 0, []⟩ : Ins)])).set (((r2.length : Nat) : Int).toNat) (⟨e5.Op, (((r4 ++ ([(⟨24, 0, 0, []⟩ : Ins), (⟨1, 0, 1, []⟩ : Ins), (⟨23, 0, 0, []⟩ : Ins)])).length : Nat) : Int), e5.N, e5.S⟩ : Ins)).set (((r4.length : Nat) : Int).toNat) (⟨e6.Op, (((r4 ++ ([(⟨24, 0, 0, []⟩ : Ins), (⟨1, 0, 1, []⟩ : Ins), (⟨23, 0, 0, []⟩ : Ins)])).length : Nat) : Int), e6.N, e6.S⟩ : Ins)) ++ ([(⟨1, 0, 0, []⟩ : Ins)])).set ((IntKind.wrap .i64 (((r4.length : Nat) : Int) + 2)).toNat) (⟨e7.Op, ((((((r4 ++ ([(⟨24, 0, 0, []⟩ : Ins), (⟨1, 0, 1, []⟩ : Ins), (⟨23, 0, 0, []⟩ : Ins)])).set (((r2.length : Nat) : Int).toNat) (⟨e5.Op, (((r4 ++ ([(⟨24, 0, 0, []⟩ : Ins), (⟨1, 0, 1, []⟩ : Ins), (⟨23, 0, 0, []⟩ : Ins)])).length : Nat) : Int), e5.N, e5.S⟩ : Ins)).set (((r4.length : Nat) : Int).toNat) (⟨e6.Op, (((r4 ++ ([(⟨24, 0, 0, []⟩ : Ins), (⟨1, 0, 1, []⟩ : Ins), (⟨23, 0, 0, []⟩ : Ins)])).length : Nat) : Int), e6.N, e6.S⟩ : Ins)) ++ ([(⟨1, 0, 0, []⟩ : Ins)])).length : Nat) : Int), e7.N, e7.S⟩ : Ins)))
    | none => none) else none) else none)
        | none => none) else none)
    | none => none) else none) else none)) else none)
noncomputable def r16_and_D (F : Fam_r16_expr) (hF : Fam_r16_expr_ok F) (N : Nat) : FD E0 := { f := 73, fn := Try.f73, q := r16_and_q, g := [⟨r16_expr_C F, hF.r16_expr⟩, r16_expr_2_S N], mode := fun | 20 => .own | 21 => .own | 35 => .own | 36 => .own | 51 => .own | 52 => .own | _ => .app }
theorem r16_and_okF (F : Fam_r16_expr) (hF : Fam_r16_expr_ok F) (N : Nat) : Ct.ok E0 ⟨(r16_and_D F hF N).f, (r16_and_D F hF N).q, fun R k a b c d e g h i j => r16_and_d F N a b c d e g h i j (oK ⟨.sw 0, [], [.rw .ins .own]⟩ k)⟩ := FD.ct e0 (r16_and_D F hF N) N (fun R k a b c d e g h i j => r16_and_d F N a b c d e g h i j (oK ⟨.sw 0, [], [.rw .ins .own]⟩ k))

noncomputable def r16_or_d (F : Fam_r16_expr) {R : Type} (N : Nat) (Kind N_ : Int) (Name : List UInt8) (Kids : List Expr) (At : Int) (Vars Ports Timers : List (List UInt8)) (Nodes : List Node) (k0 : (List Ins) → Option R) : Option R :=
  (at? Kids 0).bind fun e1 =>
  F.r16_expr _ e1.Kind e1.N e1.Name e1.Kids e1.At Vars Ports Timers Nodes (fun (r2 : List Ins) =>
  if r2.length + ([(⟨24, 0, 0, []⟩ : Ins), (⟨1, 0, 1, []⟩ : Ins), (⟨23, 0, 0, []⟩ : Ins)]).length ≤ maxRow then (if (0 : Int) ≤ ((r2.length : Nat) : Int) ∧ ((r2.length : Nat) : Int) < ((r2 ++ ([(⟨24, 0, 0, []⟩ : Ins), (⟨1, 0, 1, []⟩ : Ins), (⟨23, 0, 0, []⟩ : Ins)])).length : Int) then (match (r2 ++ ([(⟨24, 0, 0, []⟩ : Ins), (⟨1, 0, 1, []⟩ : Ins), (⟨23, 0, 0, []⟩ : Ins)]))[((r2.length : Nat) : Int).toNat]? with
    | some e3 => ((at? Kids 1).bind fun e4 =>
  r16_expr_2 N e4.Kind e4.N e4.Name e4.Kids e4.At Vars Ports Timers Nodes ((r2 ++ ([(⟨24, 0, 0, []⟩ : Ins), (⟨1, 0, 1, []⟩ : Ins), (⟨23, 0, 0, []⟩ : Ins)])).set (((r2.length : Nat) : Int).toNat) (⟨e3.Op, (((r2 ++ ([(⟨24, 0, 0, []⟩ : Ins), (⟨1, 0, 1, []⟩ : Ins), (⟨23, 0, 0, []⟩ : Ins)])).length : Nat) : Int), e3.N, e3.S⟩ : Ins)) (fun (r5 : List Ins) =>
  if r5.length + ([(⟨24, 0, 0, []⟩ : Ins), (⟨1, 0, 1, []⟩ : Ins), (⟨23, 0, 0, []⟩ : Ins)]).length ≤ maxRow then (if (0 : Int) ≤ ((r5.length : Nat) : Int) ∧ ((r5.length : Nat) : Int) < ((r5 ++ ([(⟨24, 0, 0, []⟩ : Ins), (⟨1, 0, 1, []⟩ : Ins), (⟨23, 0, 0, []⟩ : Ins)])).length : Int) then (match (r5 ++ ([(⟨24, 0, 0, []⟩ : Ins), (⟨1, 0, 1, []⟩ : Ins), (⟨23, 0, 0, []⟩ : Ins)]))[((r5.length : Nat) : Int).toNat]? with
    | some e6 => (if ((r5 ++ ([(⟨24, 0, 0, []⟩ : Ins), (⟨1, 0, 1, []⟩ : Ins), (⟨23, 0, 0, []⟩ : Ins)])).set (((r5.length : Nat) : Int).toNat) (⟨e6.Op, (((r5 ++ ([(⟨24, 0, 0, []⟩ : Ins), (⟨1, 0, 1, []⟩ : Ins), (⟨23, 0, 0, []⟩ : Ins)])).length : Nat) : Int), e6.N, e6.S⟩ : Ins)).length + ([(⟨1, 0, 0, []⟩ : Ins)]).length ≤ maxRow then (if (0 : Int) ≤ IntKind.wrap .i64 (((r2.length : Nat) : Int) + 2) ∧ IntKind.wrap .i64 (((r2.length : Nat) : Int) + 2) < ((((r5 ++ ([(⟨24, 0, 0, []⟩ : Ins), (⟨1, 0, 1, []⟩ : Ins), (⟨23, 0, 0, []⟩ : Ins)])).set (((r5.length : Nat) : Int).toNat) (⟨e6.Op, (((r5 ++ ([(⟨24, 0, 0, []⟩ : Ins), (⟨1, 0, 1, []⟩ : Ins), (⟨23, 0, 0, []⟩ : Ins)])).length : Nat) : Int), e6.N, e6.S⟩ : Ins)) ++ ([(⟨1, 0, 0, []⟩ : Ins)])).length : Int) then (match (((r5 ++ ([(⟨24, 0, 0, []⟩ : Ins), (⟨1, 0, 1, []⟩ : Ins), (⟨23, 0, 0, []⟩ : Ins)])).set (((r5.length : Nat) : Int).toNat) (⟨e6.Op, (((r5 ++ ([(⟨24, 0, 0, []⟩ : Ins), (⟨1, 0, 1, []⟩ : Ins), (⟨23, 0, 0, []⟩ : Ins)])).length : Nat) : Int), e6.N, e6.S⟩ : Ins)) ++ ([(⟨1, 0, 0, []⟩ : Ins)]))[(IntKind.wrap .i64 (((r2.length : Nat) : Int) + 2)).toNat]? with
    | some e7 => (if (0 : Int) ≤ IntKind.wrap .i64 (((r5.length : Nat) : Int) + 2) ∧ IntKind.wrap .i64 (((r5.length : Nat) : Int) + 2) < (((((r5 ++ ([(⟨24, 0, 0, []⟩ : Ins), (⟨1, 0, 1, []⟩ : Ins), (⟨23, 0, 0, []⟩ : Ins)])).set (((r5.length : Nat) : Int).toNat) (⟨e6.Op, (((r5 ++ ([(⟨24, 0, 0, []⟩ : Ins), (⟨1, 0, 1, []⟩ : Ins), (⟨23, 0, 0, []⟩ : Ins)])).length : Nat) : Int), e6.N, e6.S⟩ : Ins)) ++ ([(⟨1, 0, 0, []⟩ : Ins)])).set ((IntKind.wrap .i64 (((r2.length : Nat) : Int) + 2)).toNat) (⟨e7.Op, (((((r5 ++ ([(⟨24, 0, 0, []⟩ : Ins), (⟨1, 0, 1, []⟩ : Ins), (⟨23, 0, 0, []⟩ : Ins)])).set (((r5.length : Nat) : Int).toNat) (⟨e6.Op, (((r5 ++ ([(⟨24, 0, 0, []⟩ : Ins), (⟨1, 0, 1, []⟩ : Ins), (⟨23, 0, 0, []⟩ : Ins)])).length : Nat) : Int), e6.N, e6.S⟩ : Ins)) ++ ([(⟨1, 0, 0, []⟩ : Ins)])).length : Nat) : Int), e7.N, e7.S⟩ : Ins)).length : Int) then (match ((((r5 ++ ([(⟨24, 0, 0, []⟩ : Ins), (⟨1, 0, 1, []⟩ : Ins), (⟨23, 0, 0, []⟩ : Ins)])).set (((r5.length : Nat) : Int).toNat) (⟨e6.Op, (((r5 ++ ([(⟨24, 0, 0, []⟩ : Ins), (⟨1, 0, 1, []⟩ : Ins), (⟨23, 0, 0, []⟩ : Ins)])).length : Nat) : Int), e6.N, e6.S⟩ : Ins)) ++ ([(⟨1, 0, 0, []⟩ : Ins)])).set ((IntKind.wrap .i64 (((r2.length : Nat) : Int) + 2)).toNat) (⟨e7.Op, (((((r5 ++ ([(⟨24, 0, 0, []⟩ : Ins), (⟨1, 0, 1, []⟩ : Ins), (⟨23, 0, 0, []⟩ : Ins)])).set (((r5.length : Nat) : Int).toNat) (⟨e6.Op, (((r5 ++ ([(⟨24, 0, 0, []⟩ : Ins), (⟨1, 0, 1, []⟩ : Ins), (⟨23, 0, 0, []⟩ : Ins)])).length : Nat) : Int), e6.N, e6.S⟩ : Ins)) ++ ([(⟨1, 0, 0, []⟩ : Ins)])).length : Nat) : Int), e7.N, e7.S⟩ : Ins))[(IntKind.wrap .i64 (((r5.length : Nat) : Int) + 2)).toNat]? with
        | some e8 => (k0 (((((r5 ++ ([(⟨24, 0, 0, []⟩ : Ins), (⟨1, 0, 1, []⟩ : Ins), (⟨23, 0, 0, []⟩ : Ins)])).set (((r5.length : Nat) : Int).toNat) (⟨e6.Op, (((r5 ++ ([(⟨24, 0, 0, []⟩ : Ins), (⟨1, 0, 1, []⟩ : Ins), (⟨23, 0, 0, []⟩ : Ins)])).length : Nat) : Int), e6.N, e6.S⟩ : Ins)) ++ ([(⟨1, 0, 0, []⟩ : Ins)])).set ((IntKind.wrap .i64 (((r2.length : Nat) : Int) + 2)).toNat) (⟨e7.Op, (((((r5 ++ ([(⟨24, 0, 0, []⟩ : Ins), (⟨1, 0, 1, []⟩ : Ins), (⟨23, 0, 0, []⟩ : Ins)])).set (((r5.length : Nat) : Int).toNat) (⟨e6.Op, (((r5 ++ ([(⟨24, 0, 0, []⟩ : Ins), (⟨1, 0, 1, []⟩ : Ins), (⟨23, 0, 0, []⟩ : Ins)])).length : Nat) : Int), e6.N, e6.S⟩ : Ins)) ++ ([(⟨1, 0, 0, []⟩ : Ins)])).length : Nat) : Int), e7.N, e7.S⟩ : Ins)).set ((IntKind.wrap .i64 (((r5.length : Nat) : Int) + 2)).toNat) (⟨e8.Op, (((((r5 ++ ([(⟨24, 0, 0, []⟩ : Ins), (⟨1, 0, 1, []⟩ : Ins), (⟨23, 0, 0, []⟩ : Ins)])).set (((r5.length : Nat) : Int).toNat) (⟨e6.Op, (((r5 ++ ([(⟨24, 0, 0, []⟩ : Ins), (⟨1, 0, 1, []⟩ : Ins), (⟨23, 0, 0, []⟩ : Ins)])).length : Nat) : Int), e6.N, e6.S⟩ : Ins)) ++ ([(⟨1, 0, 0, []⟩ : Ins)])).length : Nat) : Int), e8.N, e8.S⟩ : Ins)))
        | none => none) else none)
    | none => none) else none) else none)
    | none => none) else none) else none))
    | none => none) else none) else none)
noncomputable def r16_or_D (F : Fam_r16_expr) (hF : Fam_r16_expr_ok F) (N : Nat) : FD E0 := { f := 74, fn := Try.f74, q := r16_or_q, g := [⟨r16_expr_C F, hF.r16_expr⟩, r16_expr_2_S N], mode := fun | 22 => .own | 23 => .own | 43 => .own | 44 => .own | 53 => .own | 54 => .own | _ => .app }
theorem r16_or_okF (F : Fam_r16_expr) (hF : Fam_r16_expr_ok F) (N : Nat) : Ct.ok E0 ⟨(r16_or_D F hF N).f, (r16_or_D F hF N).q, fun R k a b c d e g h i j => r16_or_d F N a b c d e g h i j (oK ⟨.sw 0, [], [.rw .ins .own]⟩ k)⟩ := FD.ct e0 (r16_or_D F hF N) N (fun R k a b c d e g h i j => r16_or_d F N a b c d e g h i j (oK ⟨.sw 0, [], [.rw .ins .own]⟩ k))

noncomputable def Fam_r16_expr_next (F : Fam_r16_expr) (N : Nat) : Fam_r16_expr where
  r16_expr := fun R Kind N_ Name Kids At Vars Ports Timers Nodes k0 => r16_expr_d F N Kind N_ Name Kids At Vars Ports Timers Nodes k0
  r16_and := fun R Kind N_ Name Kids At Vars Ports Timers Nodes k0 => r16_and_d F N Kind N_ Name Kids At Vars Ports Timers Nodes k0
  r16_or := fun R Kind N_ Name Kids At Vars Ports Timers Nodes k0 => r16_or_d F N Kind N_ Name Kids At Vars Ports Timers Nodes k0
noncomputable def Fam_r16_expr_at (N : Nat) : Nat → Fam_r16_expr
  | 0 => { r16_expr := fun _ _ _ _ _ _ _ _ _ _ _ => none, r16_and := fun _ _ _ _ _ _ _ _ _ _ _ => none, r16_or := fun _ _ _ _ _ _ _ _ _ _ _ => none }
  | d + 1 => Fam_r16_expr_next (Fam_r16_expr_at N d) N
theorem Fam_r16_expr_at_ok (N : Nat) : ∀ d, Fam_r16_expr_ok (Fam_r16_expr_at N d)
  | 0 => { r16_expr := Ct.ok_none, r16_and := Ct.ok_none, r16_or := Ct.ok_none }
  | d + 1 => { r16_expr := r16_expr_okF _ (Fam_r16_expr_at_ok N d) N, r16_and := r16_and_okF _ (Fam_r16_expr_at_ok N d) N, r16_or := r16_or_okF _ (Fam_r16_expr_at_ok N d) N }
noncomputable def r16_expr {R : Type} (N : Nat) (Kind N_ : Int) (Name : List UInt8) (Kids : List Expr) (At : Int) (Vars Ports Timers : List (List UInt8)) (Nodes : List Node) (k0 : (List Ins) → Option R) : Option R := (Fam_r16_expr_at N N).r16_expr R Kind N_ Name Kids At Vars Ports Timers Nodes k0
noncomputable def r16_expr_S (N : Nat) : OC E0 := ⟨r16_expr_C (Fam_r16_expr_at N N), (Fam_r16_expr_at_ok N N).r16_expr⟩
noncomputable def r16_and {R : Type} (N : Nat) (Kind N_ : Int) (Name : List UInt8) (Kids : List Expr) (At : Int) (Vars Ports Timers : List (List UInt8)) (Nodes : List Node) (k0 : (List Ins) → Option R) : Option R := (Fam_r16_expr_at N N).r16_and R Kind N_ Name Kids At Vars Ports Timers Nodes k0
noncomputable def r16_or {R : Type} (N : Nat) (Kind N_ : Int) (Name : List UInt8) (Kids : List Expr) (At : Int) (Vars Ports Timers : List (List UInt8)) (Nodes : List Node) (k0 : (List Ins) → Option R) : Option R := (Fam_r16_expr_at N N).r16_or R Kind N_ Name Kids At Vars Ports Timers Nodes k0
noncomputable def r16_Guard {R : Type} (N : Nat) (Kind N_ : Int) (Name : List UInt8) (Kids : List Expr) (At : Int) (Vars Ports Timers : List (List UInt8)) (Nodes : List Node) (k0 : (List Ins) → Option R) : Option R :=
  r16_expr N Kind N_ Name Kids At Vars Ports Timers Nodes (fun (r1 : List Ins) =>
  k0 r1)
noncomputable def r16_Guard_D (N : Nat) : FD E0 := { f := 18, fn := Try.f18, q := ⟨[y2, y1], []⟩, g := [r16_expr_S N], exit := [(⟨4, []⟩, .tree .ins)] }
noncomputable def r16_Guard_S (N : Nat) : OC E0 := ⟨_, FD.ct e0 (r16_Guard_D N) N (fun R k a b c d e g h i j => r16_Guard N a b c d e g h i j (oK ⟨.t .ins, [], []⟩ k))⟩

def y3 : Sh S := .ag [.i .i64, .i .i64, .i .i64, .st]
def z2 : ShO S := .bx [.t .str, .t .str, .t .str, .t .node, .ns]
def z3 : ShO S := .bx [.t .str, .t .str, .t .str, .t .node, .sw 1]
noncomputable def code_writer_put {R : Type} (N : Nat) (Op A N_ : Int) (S : List UInt8) (Vars Ports Timers : List (List UInt8)) (Nodes : List Node) (k0 : Int → (List Ins) → Option R) : Option R :=
  if [(⟨Op, A, N_, S⟩ : Ins)].length ≤ maxRow then (k0 (IntKind.wrap .i64 ((([(⟨Op, A, N_, S⟩ : Ins)].length : Nat) : Int) - 1)) [(⟨Op, A, N_, S⟩ : Ins)]) else none
noncomputable def code_writer_put_D (N : Nat) : FD E0 := { f := 99, fn := Try.f99, q := ⟨[.p 0 0 0, y3], [z2]⟩, mode := fun | 11 => .own | 12 => .own | _ => .app }
noncomputable def code_writer_put_S (N : Nat) : OC E0 := ⟨_, FD.ct e0 (code_writer_put_D N) N (fun R k a b c d e g h i => code_writer_put N a b c d e g h i (fun j => oK ⟨.i .i64, [z3], [.rw .ins .own]⟩ k j e g h i))⟩

noncomputable def code_writer_push {R : Type} (N : Nat) (n_ : Int) (Vars Ports Timers : List (List UInt8)) (Nodes : List Node) (k0 : (List Ins) → Option R) : Option R :=
  code_writer_put N 1 0 n_ [] Vars Ports Timers Nodes (fun (r1 : Int) (r2 : List Ins) =>
  k0 r2)
noncomputable def code_writer_push_D (N : Nat) : FD E0 := { f := 98, fn := Try.f98, q := ⟨[.p 0 0 0, .i .i64], [z2]⟩, g := [code_writer_put_S N] }
noncomputable def code_writer_push_S (N : Nat) : OC E0 := ⟨_, FD.ct e0 (code_writer_push_D N) N (fun R k a b c d e => code_writer_push N a b c d e (oK ⟨.tp [], [z3], [.rw .ins .own]⟩ k b c d e))⟩

noncomputable def slices_Index_string_l0_b {R : Type} (N : Nat) (s_1 : List (List UInt8)) (v_2 : List UInt8) (v_3 : Int) (kp0 : Option R) (kp1 : Int → Option R) (rec : Int → Option R) (v_4 : Int) : Option R :=
  if (decide (v_4 < v_3)) = true then
    ((at? s_1 v_4).bind fun e5 =>
  if (v_2 == e5) = true then
    (kp1 v_4)
  else
    (rec (IntKind.wrap .i64 (v_4 + 1))))
  else
    (kp0 )
noncomputable def slices_Index_string_l0 {R : Type} (N : Nat) (s_1 : List (List UInt8)) (v_2 : List UInt8) (v_3 : Int) (kp0 : Option R) (kp1 : Int → Option R) : Nat → Int → Option R
  | 0 => fun _ => none
  | n + 1 => fun v_4 => slices_Index_string_l0_b N s_1 v_2 v_3 kp0 kp1 (slices_Index_string_l0 N s_1 v_2 v_3 kp0 kp1 n) v_4
noncomputable def slices_Index_string {R : Type} (N : Nat) (s : List (List UInt8)) (v : List UInt8) (k0 : Int → Option R) : Option R :=
  slices_Index_string_l0 N s v ((s.length : Nat) : Int) (k0 (-1))
    (fun (y6 : Int) =>
  k0 y6) N 0
noncomputable def slices_Index_string_D (N : Nat) : FD E0 := { f := 77, fn := Try.f77, q := ⟨[.t .str, .st], []⟩, loops := [{ cur := 0, live := [0, 1, 7, 8], out := fun | .exit 0 => ([], []) | .ret => ([4], []) | _ => ([], []), q := ⟨[.t .str, .st, .i .i64, .i .i64], []⟩, G := fun R K n a b c d => slices_Index_string_l0 N a b c (pK ⟨[], []⟩ (K (.exit 0))) (pK ⟨[.i .i64], []⟩ (K .ret)) n d, B := fun R K rec a b c d => slices_Index_string_l0_b N a b c (pK ⟨[], []⟩ (K (.exit 0))) (pK ⟨[.i .i64], []⟩ (K .ret)) (rec a b c) d }] }
noncomputable def slices_Index_string_S (N : Nat) : OC E0 := ⟨_, FD.ct e0 (slices_Index_string_D N) N (fun R k a b => slices_Index_string N a b (oK ⟨.i .i64, [], []⟩ k))⟩

def y4 : Sh S := .ag [.i .i64, .i .i64, .i .i64, .i .i64, .i .i64, .i .i64, .st]
noncomputable def flat_Find_1 {R : Type} (N : Nat) (Kind Parent Last Init Entry Exit : Int) (Name a1_0 : List UInt8) (k0 : Bool → Option R) : Option R :=
  k0 (Name == a1_0)
noncomputable def flat_Find_1_D (N : Nat) : FD E0 := { f := 119, fn := Try.f119, q := ⟨[y4, .p 0 0 0], [.bx [.st]]⟩ }
noncomputable def flat_Find_1_S (N : Nat) : OC E0 := ⟨_, FD.ctq e0 (flat_Find_1_D N) N (fun R k a b c d e g h i => flat_Find_1 N a b c d e g h i (oQ ⟨.b, [], []⟩ k))⟩

noncomputable def slices_IndexFunc_Node_l0_b {R : Type} (N : Nat) (s_1 : List Node) (v_2 : Int) (f_4 : List UInt8) (kp0 : Option R) (kp1 : Int → Option R) (rec : Int → Option R) (v_3 : Int) : Option R :=
  if (decide (v_3 < v_2)) = true then
    ((at? s_1 v_3).bind fun e5 =>
  if (e5.Name == f_4) = true then
    (kp1 v_3)
  else
    (rec (IntKind.wrap .i64 (v_3 + 1))))
  else
    (kp0 )
noncomputable def slices_IndexFunc_Node_l0 {R : Type} (N : Nat) (s_1 : List Node) (v_2 : Int) (f_4 : List UInt8) (kp0 : Option R) (kp1 : Int → Option R) : Nat → Int → Option R
  | 0 => fun _ => none
  | n + 1 => fun v_3 => slices_IndexFunc_Node_l0_b N s_1 v_2 f_4 kp0 kp1 (slices_IndexFunc_Node_l0 N s_1 v_2 f_4 kp0 kp1 n) v_3
noncomputable def slices_IndexFunc_Node {R : Type} (N : Nat) (s : List Node) (f_c0_0 : List UInt8) (k0 : Int → Option R) : Option R :=
  slices_IndexFunc_Node_l0 N s ((s.length : Nat) : Int) f_c0_0 (k0 (-1))
    (fun (y6 : Int) =>
  k0 y6) N 0
noncomputable def slices_IndexFunc_Node_D (N : Nat) : FD E0 := { f := 118, fn := Try.f118, q := ⟨[.t .node, .fn 119 [.p 0 0 0]], [.bx [.st]]⟩, loops := [{ cur := 0, live := [0, 1, 7, 8], out := fun | .exit 0 => ([], []) | .ret => ([4], []) | _ => ([], []), q := ⟨[.t .node, .fn 119 [.p 0 0 0], .i .i64, .i .i64], [.bx [.st]]⟩, G := fun R K n a b c d => slices_IndexFunc_Node_l0 N a b d (pK ⟨[], [.bx [.st]]⟩ (K (.exit 0)) d) (fun e => pK ⟨[.i .i64], [.bx [.st]]⟩ (K .ret) e d) n c, B := fun R K rec a b c d => slices_IndexFunc_Node_l0_b N a b d (pK ⟨[], [.bx [.st]]⟩ (K (.exit 0)) d) (fun e => pK ⟨[.i .i64], [.bx [.st]]⟩ (K .ret) e d) (fun c => rec a b c d) c }], g := [flat_Find_1_S N] }
noncomputable def slices_IndexFunc_Node_S (N : Nat) : OC E0 := ⟨_, FD.ctq e0 (slices_IndexFunc_Node_D N) N (fun R k a b => slices_IndexFunc_Node N a b (oQ ⟨.i .i64, [], []⟩ k))⟩

noncomputable def flat_Find {R : Type} (N : Nat) (l : List Node) (name : List UInt8) (k0 : Int → Option R) : Option R :=
  if (name == []) = true then
    (k0 (-1))
  else
    (slices_IndexFunc_Node N l name (fun (r1 : Int) =>
  k0 r1))
noncomputable def flat_Find_D (N : Nat) : FD E0 := { f := 100, fn := Try.f100, q := ⟨[.t .node, .st], []⟩, g := [slices_IndexFunc_Node_S N] }
noncomputable def flat_Find_S (N : Nat) : OC E0 := ⟨_, FD.ct e0 (flat_Find_D N) N (fun R k a b => flat_Find N a b (oK ⟨.i .i64, [], []⟩ k))⟩

noncomputable def code_op {R : Type} (N : Nat) (kind : Int) (k0 : Int → Option R) : Option R :=
  if (kind == 5) = true then
    (k0 5)
  else
    (if (kind == 6) = true then
      (k0 6)
    else
      (if (kind == 7) = true then
        (k0 7)
      else
        (if (kind == 8) = true then
          (k0 8)
        else
          (if (kind == 9) = true then
            (k0 9)
          else
            (if (kind == 10) = true then
              (k0 10)
            else
              (if (kind == 11) = true then
                (k0 11)
              else
                (if (kind == 12) = true then
                  (k0 12)
                else
                  (if (kind == 13) = true then
                    (k0 13)
                  else
                    (if (kind == 14) = true then
                      (k0 14)
                    else
                      (if (kind == 15) = true then
                        (k0 15)
                      else
                        (if (kind == 16) = true then
                          (k0 16)
                        else
                          (k0 17))))))))))))
noncomputable def code_op_D (N : Nat) : FD E0 := { f := 102, fn := Try.f102, q := ⟨[.i .i64], []⟩ }
noncomputable def code_op_S (N : Nat) : OC E0 := ⟨_, FD.ct e0 (code_op_D N) N (fun R k a => code_op N a (oK ⟨.i .i64, [], []⟩ k))⟩

def z4 : ShO S := .bx [.t .str, .t .str, .t .str, .t .node, .sw 2]
noncomputable def code_writer_put_2 {R : Type} (N : Nat) (Op A N_ : Int) (S : List UInt8) (Vars Ports Timers : List (List UInt8)) (Nodes : List Node) (c : List Ins) (k0 : Int → (List Ins) → Option R) : Option R :=
  if c.length + [(⟨Op, A, N_, S⟩ : Ins)].length ≤ maxRow then (k0 (IntKind.wrap .i64 ((((c ++ [(⟨Op, A, N_, S⟩ : Ins)]).length : Nat) : Int) - 1)) (c ++ [(⟨Op, A, N_, S⟩ : Ins)])) else none
noncomputable def code_writer_put_2_D (N : Nat) : FD E0 := { f := 99, fn := Try.f99, q := ⟨[.p 0 0 0, y3], [z3, .rw .ins .own]⟩, mode := fun | 11 => .own | 12 => .own | _ => .app }
noncomputable def code_writer_put_2_S (N : Nat) : OC E0 := ⟨_, FD.ct e0 (code_writer_put_2_D N) N (fun R k a b c d e g h i j => code_writer_put_2 N a b c d e g h i j (fun l => oK ⟨.i .i64, [z4, .g], [.rw .ins .own]⟩ k l e g h i))⟩

noncomputable def code_writer_push_2 {R : Type} (N : Nat) (n_ : Int) (Vars Ports Timers : List (List UInt8)) (Nodes : List Node) (c : List Ins) (k0 : (List Ins) → Option R) : Option R :=
  code_writer_put_2 N 1 0 n_ [] Vars Ports Timers Nodes c (fun (r1 : Int) (r2 : List Ins) =>
  k0 r2)
noncomputable def code_writer_push_2_D (N : Nat) : FD E0 := { f := 98, fn := Try.f98, q := ⟨[.p 0 0 0, .i .i64], [z3, .rw .ins .own]⟩, g := [code_writer_put_2_S N] }
noncomputable def code_writer_push_2_S (N : Nat) : OC E0 := ⟨_, FD.ct e0 (code_writer_push_2_D N) N (fun R k a b c d e g => code_writer_push_2 N a b c d e g (oK ⟨.tp [], [z4, .g], [.rw .ins .own]⟩ k b c d e))⟩

noncomputable def code_writer_here {R : Type} (N : Nat) (at_ : Int) (Vars Ports Timers : List (List UInt8)) (Nodes : List Node) (c : List Ins) (k0 : (List Ins) → Option R) : Option R :=
  if (0 : Int) ≤ at_ ∧ at_ < (c.length : Int) then (match c[at_.toNat]? with
    | some e1 => (k0 (c.set at_.toNat (⟨e1.Op, ((c.length : Nat) : Int), e1.N, e1.S⟩ : Ins)))
    | none => none) else none
noncomputable def code_writer_here_D (N : Nat) : FD E0 := { f := 110, fn := Try.f110, q := ⟨[.p 0 0 0, .i .i64], [z3, .rw .ins .own]⟩ }
noncomputable def code_writer_here_S (N : Nat) : OC E0 := ⟨_, FD.ct e0 (code_writer_here_D N) N (fun R k a b c d e g => code_writer_here N a b c d e g (oK ⟨.tp [], [z3, .rw .ins .own], []⟩ k b c d e))⟩

structure Fam_code_writer_expr_2 where
  code_writer_expr_2 : (R : Type) → Int → Int → (List UInt8) → (List Expr) → Int → (List (List UInt8)) → (List (List UInt8)) → (List (List UInt8)) → (List Node) → (List Ins) → ((List Ins) → Option R) → (Option R) → Option R
  code_writer_both_2 : (R : Type) → Int → Int → (List UInt8) → (List Expr) → Int → (List (List UInt8)) → (List (List UInt8)) → (List (List UInt8)) → (List Node) → (List Ins) → ((List Ins) → Option R) → Option R

def code_writer_expr_2_q : Pat S := ⟨[.p 0 0 0, y2], [z3, .rw .ins .own]⟩
noncomputable def code_writer_expr_2_C (F : Fam_code_writer_expr_2) : Ct S := ⟨63, code_writer_expr_2_q, fun R k a b c d e g h i j l => F.code_writer_expr_2 R a b c d e g h i j l (oK ⟨.tp [], [z4, .g], [.rw .ins .own]⟩ k g h i j) (oK ⟨.tp [], [z3, .rw .ins .own], []⟩ k g h i j l)⟩
def code_writer_both_2_q : Pat S := ⟨[.p 0 0 0, y2], [z3, .rw .ins .own]⟩
noncomputable def code_writer_both_2_C (F : Fam_code_writer_expr_2) : Ct S := ⟨101, code_writer_both_2_q, fun R k a b c d e g h i j l => F.code_writer_both_2 R a b c d e g h i j l (oK ⟨.tp [], [z4, .g], [.rw .ins .own]⟩ k g h i j)⟩
structure Fam_code_writer_expr_2_ok (F : Fam_code_writer_expr_2) : Prop where
  code_writer_expr_2 : (code_writer_expr_2_C F).ok E0
  code_writer_both_2 : (code_writer_both_2_C F).ok E0

noncomputable def code_writer_expr_2_l1_b (F : Fam_code_writer_expr_2) {R : Type} (N : Nat) (v_37 : List Expr) (v_38 : Int) (w_40 w_41 w_42 : List (List UInt8)) (w_43 : List Node) (e_45 e_46 : Int) (e_47 : List UInt8) (e_48 : List Expr) (e_49 : Int) (kp0 : (List Ins) → Option R) (rec : Int → (List Ins) → Option R) (v_39 : Int) (o_44 : List Ins) : Option R :=
  if (decide (v_39 < v_38)) = true then
    ((at? v_37 v_39).bind fun e50 =>
  F.code_writer_expr_2 _ e50.Kind e50.N e50.Name e50.Kids e50.At w_40 w_41 w_42 w_43 o_44 (fun (r51 : List Ins) =>
  rec (IntKind.wrap .i64 (v_39 + 1)) r51) (rec (IntKind.wrap .i64 (v_39 + 1)) o_44))
  else
    (kp0 o_44)
noncomputable def code_writer_expr_2_l1 (F : Fam_code_writer_expr_2) {R : Type} (N : Nat) (v_37 : List Expr) (v_38 : Int) (w_40 w_41 w_42 : List (List UInt8)) (w_43 : List Node) (e_45 e_46 : Int) (e_47 : List UInt8) (e_48 : List Expr) (e_49 : Int) (kp0 : (List Ins) → Option R) : Nat → Int → (List Ins) → Option R
  | 0 => fun _ _ => none
  | n + 1 => fun v_39 o_44 => code_writer_expr_2_l1_b F N v_37 v_38 w_40 w_41 w_42 w_43 e_45 e_46 e_47 e_48 e_49 kp0 (code_writer_expr_2_l1 F N v_37 v_38 w_40 w_41 w_42 w_43 e_45 e_46 e_47 e_48 e_49 kp0 n) v_39 o_44
noncomputable def code_writer_expr_2_c18 (F : Fam_code_writer_expr_2) {R : Type} (N : Nat) (v_10 : Bool) (w_11 w_12 w_13 : List (List UInt8)) (w_14 : List Node) (o_15 : List Ins) (e_16 e_17 : Int) (e_18 : List UInt8) (e_19 : List Expr) (e_20 : Int) (kp0 : (List Ins) → Option R) (kp1 : Option R) : Option R :=
  if v_10 = true then
    (if (((e_19.length : Nat) : Int) == 2) = true then
      (F.code_writer_both_2 _ e_16 e_17 e_18 e_19 e_20 w_11 w_12 w_13 w_14 o_15 (fun (r21 : List Ins) =>
      kp0 r21))
    else
      (kp1 ))
  else
    (code_writer_expr_2_l1 F N e_19 ((e_19.length : Nat) : Int) w_11 w_12 w_13 w_14 e_16 e_17 e_18 e_19 e_20 (fun (y52 : List Ins) =>
    code_op N e_16 (fun (r53 : Int) =>
    code_writer_put_2 N r53 0 0 [] w_11 w_12 w_13 w_14 y52 (fun (r54 : Int) (r55 : List Ins) =>
    kp0 r55))) N 0 o_15)
noncomputable def code_writer_expr_2_d (F : Fam_code_writer_expr_2) {R : Type} (N : Nat) (Kind N_ : Int) (Name : List UInt8) (Kids : List Expr) (At : Int) (Vars Ports Timers : List (List UInt8)) (Nodes : List Node) (c : List Ins) (k0 : (List Ins) → Option R) (k1 : Option R) : Option R :=
  if (Kind == 1) = true then
    (code_writer_push_2 N N_ Vars Ports Timers Nodes c (fun (r1 : List Ins) =>
    k0 r1))
  else
    (if (Kind == 2) = true then
      (slices_Index_string N Vars Name (fun (r2 : Int) =>
      code_writer_put_2 N 2 r2 0 [] Vars Ports Timers Nodes c (fun (r3 : Int) (r4 : List Ins) =>
      k0 r4)))
    else
      (if (Kind == 3) = true then
        (code_writer_put_2 N 3 0 0 [] Vars Ports Timers Nodes c (fun (r5 : Int) (r6 : List Ins) =>
        k0 r6))
      else
        (if (Kind == 4) = true then
          (flat_Find N Nodes Name (fun (r7 : Int) =>
          code_writer_put_2 N 4 r7 0 [] Vars Ports Timers Nodes c (fun (r8 : Int) (r9 : List Ins) =>
          k0 r9)))
        else
          (if (Kind == 18) = true then
            (code_writer_expr_2_c18 F N (Kind == 18) Vars Ports Timers Nodes c Kind N_ Name Kids At (fun (y56 : List Ins) =>
            k0 y56)
              (k1 ))
          else
            (code_writer_expr_2_c18 F N (Kind == 19) Vars Ports Timers Nodes c Kind N_ Name Kids At (fun (y57 : List Ins) =>
            k0 y57)
              (k1 ))))))
noncomputable def code_writer_expr_2_D (F : Fam_code_writer_expr_2) (hF : Fam_code_writer_expr_2_ok F) (N : Nat) : FD E0 := { f := 63, fn := Try.f63, q := code_writer_expr_2_q, loops := [{ cur := 1, live := [0, 3, 9, 10, 11], fix := [(⟨0, [4]⟩, .fresh .ins .own)], out := fun | .exit 1 => ([0, 3], []) | _ => ([], []), q := ⟨[.p 0 0 0, .p 3 0 0, .t .expr, .i .i64, .i .i64], [z4, .g, .rw .ins .own, z0]⟩, G := fun R K n a b c d e g h i j l m o p => code_writer_expr_2_l1 F N a b d e g h j l m o p (fun q => pK ⟨[.p 0 0 0, .p 3 0 0], [z4, .g, .rw .ins .own, z0]⟩ (K (.exit 1)) d e g h q j l m o p) n c i, B := fun R K rec a b c d e g h i j l m o p => code_writer_expr_2_l1_b F N a b d e g h j l m o p (fun q => pK ⟨[.p 0 0 0, .p 3 0 0], [z4, .g, .rw .ins .own, z0]⟩ (K (.exit 1)) d e g h q j l m o p) (fun c i => rec a b c d e g h i j l m o p) c i }], cuts := [{ key := 18, live := [0, 3, 62], out := fun | .normal => ([], []) | _ => ([], []), q := ⟨[.p 0 0 0, .p 2 0 0, .b], [z3, .rw .ins .own, z0]⟩, G := fun R K a b c d e g h i j l m => code_writer_expr_2_c18 F N a b c d e g h i j l m (pK ⟨[], [z4, .g, .rw .ins .own]⟩ (K .normal) b c d e) (pK ⟨[], [z3, .rw .ins .own]⟩ (K .normal) b c d e g) }], g := [⟨code_writer_expr_2_C F, hF.code_writer_expr_2⟩, slices_Index_string_S N, code_writer_push_2_S N, code_writer_put_2_S N, flat_Find_S N, ⟨code_writer_both_2_C F, hF.code_writer_both_2⟩, code_op_S N] }
theorem code_writer_expr_2_okF (F : Fam_code_writer_expr_2) (hF : Fam_code_writer_expr_2_ok F) (N : Nat) : Ct.ok E0 ⟨(code_writer_expr_2_D F hF N).f, (code_writer_expr_2_D F hF N).q, fun R k a b c d e g h i j l => code_writer_expr_2_d F N a b c d e g h i j l (oK ⟨.tp [], [z4, .g], [.rw .ins .own]⟩ k g h i j) (oK ⟨.tp [], [z3, .rw .ins .own], []⟩ k g h i j l)⟩ := FD.ct e0 (code_writer_expr_2_D F hF N) N (fun R k a b c d e g h i j l => code_writer_expr_2_d F N a b c d e g h i j l (oK ⟨.tp [], [z4, .g], [.rw .ins .own]⟩ k g h i j) (oK ⟨.tp [], [z3, .rw .ins .own], []⟩ k g h i j l))

noncomputable def code_writer_both_2_c7 (F : Fam_code_writer_expr_2) {R : Type} (N : Nat) (first_26 second_27 : Int) (w_28 w_29 w_30 : List (List UInt8)) (w_31 : List Node) (o_32 : List Ins) (kp0 : (List Ins) → Option R) : Option R :=
  code_writer_put_2 N 23 0 0 [] w_28 w_29 w_30 w_31 o_32 (fun (r33 : Int) (r34 : List Ins) =>
  code_writer_here N first_26 w_28 w_29 w_30 w_31 r34 (fun (r35 : List Ins) =>
  code_writer_here N second_27 w_28 w_29 w_30 w_31 r35 (fun (r36 : List Ins) =>
  code_writer_push_2 N 0 w_28 w_29 w_30 w_31 r36 (fun (r37 : List Ins) =>
  code_writer_here N r33 w_28 w_29 w_30 w_31 r37 (fun (r38 : List Ins) =>
  kp0 r38)))))
noncomputable def code_writer_both_2_c5 (F : Fam_code_writer_expr_2) {R : Type} (N : Nat) (first_17 : Int) (w_18 w_19 w_20 : List (List UInt8)) (w_21 : List Node) (o_22 : List Ins) (kp0 : (List Ins) → Option R) : Option R :=
  code_writer_put_2 N 24 0 0 [] w_18 w_19 w_20 w_21 o_22 (fun (r23 : Int) (r24 : List Ins) =>
  code_writer_push_2 N 1 w_18 w_19 w_20 w_21 r24 (fun (r25 : List Ins) =>
  code_writer_both_2_c7 F N first_17 r23 w_18 w_19 w_20 w_21 r25 (fun (y39 : List Ins) =>
  kp0 y39)))
noncomputable def code_writer_both_2_c17 (F : Fam_code_writer_expr_2) {R : Type} (N : Nat) (jump_67 second_68 : Int) (w_69 w_70 w_71 : List (List UInt8)) (w_72 : List Node) (o_73 : List Ins) (kp0 : (List Ins) → Option R) : Option R :=
  code_writer_push_2 N 1 w_69 w_70 w_71 w_72 o_73 (fun (r74 : List Ins) =>
  code_writer_put_2 N 23 0 0 [] w_69 w_70 w_71 w_72 r74 (fun (r75 : Int) (r76 : List Ins) =>
  code_writer_here N second_68 w_69 w_70 w_71 w_72 r76 (fun (r77 : List Ins) =>
  code_writer_push_2 N 0 w_69 w_70 w_71 w_72 r77 (fun (r78 : List Ins) =>
  code_writer_here N jump_67 w_69 w_70 w_71 w_72 r78 (fun (r79 : List Ins) =>
  code_writer_here N r75 w_69 w_70 w_71 w_72 r79 (fun (r80 : List Ins) =>
  kp0 r80))))))
noncomputable def code_writer_both_2_c16 (F : Fam_code_writer_expr_2) {R : Type} (N : Nat) (jump_59 : Int) (w_60 w_61 w_62 : List (List UInt8)) (w_63 : List Node) (o_64 : List Ins) (kp0 : (List Ins) → Option R) : Option R :=
  code_writer_put_2 N 24 0 0 [] w_60 w_61 w_62 w_63 o_64 (fun (r65 : Int) (r66 : List Ins) =>
  code_writer_both_2_c17 F N jump_59 r65 w_60 w_61 w_62 w_63 r66 (fun (y81 : List Ins) =>
  kp0 y81))
noncomputable def code_writer_both_2_c12 (F : Fam_code_writer_expr_2) {R : Type} (N : Nat) (first_42 : Int) (w_43 w_44 w_45 : List (List UInt8)) (w_46 : List Node) (o_47 : List Ins) (e_48 e_49 : Int) (e_50 : List UInt8) (e_51 : List Expr) (e_52 : Int) (kp0 : (List Ins) → Option R) : Option R :=
  code_writer_push_2 N 1 w_43 w_44 w_45 w_46 o_47 (fun (r53 : List Ins) =>
  code_writer_put_2 N 23 0 0 [] w_43 w_44 w_45 w_46 r53 (fun (r54 : Int) (r55 : List Ins) =>
  code_writer_here N first_42 w_43 w_44 w_45 w_46 r55 (fun (r56 : List Ins) =>
  (at? e_51 1).bind fun e57 =>
  F.code_writer_expr_2 _ e57.Kind e57.N e57.Name e57.Kids e57.At w_43 w_44 w_45 w_46 r56 (fun (r58 : List Ins) =>
  code_writer_both_2_c16 F N r54 w_43 w_44 w_45 w_46 r58 (fun (y82 : List Ins) =>
  kp0 y82)) (code_writer_both_2_c16 F N r54 w_43 w_44 w_45 w_46 r56 (fun (y83 : List Ins) =>
  kp0 y83)))))
noncomputable def code_writer_both_2_c2 (F : Fam_code_writer_expr_2) {R : Type} (N : Nat) (w_3 w_4 w_5 : List (List UInt8)) (w_6 : List Node) (o_7 : List Ins) (e_8 e_9 : Int) (e_10 : List UInt8) (e_11 : List Expr) (e_12 : Int) (kp0 kp1 : (List Ins) → Option R) : Option R :=
  code_writer_put_2 N 24 0 0 [] w_3 w_4 w_5 w_6 o_7 (fun (r13 : Int) (r14 : List Ins) =>
  if (e_8 == 18) = true then
    ((at? e_11 1).bind fun e15 =>
    F.code_writer_expr_2 _ e15.Kind e15.N e15.Name e15.Kids e15.At w_3 w_4 w_5 w_6 r14 (fun (r16 : List Ins) =>
    code_writer_both_2_c5 F N r13 w_3 w_4 w_5 w_6 r16 (fun (y40 : List Ins) =>
    kp0 y40)) (code_writer_both_2_c5 F N r13 w_3 w_4 w_5 w_6 r14 (fun (y41 : List Ins) =>
    kp0 y41)))
  else
    (code_writer_both_2_c12 F N r13 w_3 w_4 w_5 w_6 r14 e_8 e_9 e_10 e_11 e_12 (fun (y84 : List Ins) =>
    kp1 y84)))
noncomputable def code_writer_both_2_d (F : Fam_code_writer_expr_2) {R : Type} (N : Nat) (Kind N_ : Int) (Name : List UInt8) (Kids : List Expr) (At : Int) (Vars Ports Timers : List (List UInt8)) (Nodes : List Node) (c : List Ins) (k0 : (List Ins) → Option R) : Option R :=
  (at? Kids 0).bind fun e1 =>
  F.code_writer_expr_2 _ e1.Kind e1.N e1.Name e1.Kids e1.At Vars Ports Timers Nodes c (fun (r2 : List Ins) =>
  code_writer_both_2_c2 F N Vars Ports Timers Nodes r2 Kind N_ Name Kids At (fun (y85 : List Ins) =>
  k0 y85)
    (fun (y86 : List Ins) =>
  k0 y86)) (code_writer_both_2_c2 F N Vars Ports Timers Nodes c Kind N_ Name Kids At (fun (y87 : List Ins) =>
  k0 y87)
    (fun (y88 : List Ins) =>
  k0 y88))
noncomputable def code_writer_both_2_D (F : Fam_code_writer_expr_2) (hF : Fam_code_writer_expr_2_ok F) (N : Nat) : FD E0 := { f := 101, fn := Try.f101, q := code_writer_both_2_q, cuts := [{ key := 7, live := [0, 4, 5], out := fun | .ret => ([], []) | _ => ([], []), q := ⟨[.p 0 0 0, .i .i64, .i .i64], [z4, .g, .rw .ins .own]⟩, G := fun R K a b c d e g h => code_writer_both_2_c7 F N a b c d e g h (pK ⟨[], [z4, .g, .rw .ins .own]⟩ (K .ret) c d e g) }, { key := 5, live := [0, 4], out := fun | .ret => ([], []) | _ => ([], []), q := ⟨[.p 0 0 0, .i .i64], [z4, .g, .rw .ins .own]⟩, G := fun R K a b c d e g => code_writer_both_2_c5 F N a b c d e g (pK ⟨[], [z4, .g, .rw .ins .own]⟩ (K .ret) b c d e) }, { key := 17, live := [0, 7, 8], out := fun | .normal => ([], []) | _ => ([], []), q := ⟨[.p 0 0 0, .i .i64, .i .i64], [z4, .g, .rw .ins .own]⟩, G := fun R K a b c d e g h => code_writer_both_2_c17 F N a b c d e g h (pK ⟨[], [z4, .g, .rw .ins .own]⟩ (K .normal) c d e g) }, { key := 16, live := [0, 7], out := fun | .normal => ([], []) | _ => ([], []), q := ⟨[.p 0 0 0, .i .i64], [z4, .g, .rw .ins .own]⟩, G := fun R K a b c d e g => code_writer_both_2_c16 F N a b c d e g (pK ⟨[], [z4, .g, .rw .ins .own]⟩ (K .normal) b c d e) }, { key := 12, live := [0, 3, 4], out := fun | .normal => ([], []) | _ => ([], []), q := ⟨[.p 0 0 0, .p 3 0 0, .i .i64], [z4, .g, .rw .ins .own, z0]⟩, G := fun R K a b c d e g h i j l m => code_writer_both_2_c12 F N a b c d e g h i j l m (pK ⟨[], [z4, .g, .rw .ins .own]⟩ (K .normal) b c d e) }, { key := 2, live := [0, 3], fix := [(⟨0, [4]⟩, .fresh .ins .own)], out := fun | .ret => ([], []) | .normal => ([], []) | _ => ([], []), q := ⟨[.p 0 0 0, .p 3 0 0], [z4, .g, .rw .ins .own, z0]⟩, G := fun R K a b c d e g h i j l => code_writer_both_2_c2 F N a b c d e g h i j l (pK ⟨[], [z4, .g, .rw .ins .own]⟩ (K .ret) a b c d) (pK ⟨[], [z4, .g, .rw .ins .own]⟩ (K .normal) a b c d) }], g := [⟨code_writer_expr_2_C F, hF.code_writer_expr_2⟩, code_writer_push_2_S N, code_writer_put_2_S N, code_writer_here_S N] }
theorem code_writer_both_2_okF (F : Fam_code_writer_expr_2) (hF : Fam_code_writer_expr_2_ok F) (N : Nat) : Ct.ok E0 ⟨(code_writer_both_2_D F hF N).f, (code_writer_both_2_D F hF N).q, fun R k a b c d e g h i j l => code_writer_both_2_d F N a b c d e g h i j l (oK ⟨.tp [], [z4, .g], [.rw .ins .own]⟩ k g h i j)⟩ := FD.ct e0 (code_writer_both_2_D F hF N) N (fun R k a b c d e g h i j l => code_writer_both_2_d F N a b c d e g h i j l (oK ⟨.tp [], [z4, .g], [.rw .ins .own]⟩ k g h i j))

end Ef

