/- E20_3: a part of the proof of EffectMany: lemmas on the evaluator and on the functions that the law reaches. -/
import Derived.Test.YtfpfmibcnldepaaE20x2
set_option maxRecDepth 100000
set_option linter.unusedVariables false
namespace Ef
open Go TE Go.Proofs
noncomputable def code_writer_expr_l1_b (F : Fam_code_writer_expr) {R : Type} (N : Nat) (v_37 : List Expr) (v_38 : Int) (w_40 w_41 w_42 : List (List UInt8)) (w_43 : List Node) (e_45 e_46 : Int) (e_47 : List UInt8) (e_48 : List Expr) (e_49 : Int) (kp0 : (List Ins) → Option R) (rec : Int → (List Ins) → Option R) (v_39 : Int) (o_44 : List Ins) : Option R :=
  if (decide (v_39 < v_38)) = true then
    ((at? v_37 v_39).bind fun e50 =>
  F.code_writer_expr _ e50.Kind e50.N e50.Name e50.Kids e50.At w_40 w_41 w_42 w_43 o_44 (fun (r51 : List Ins) =>
  rec (IntKind.wrap .i64 (v_39 + 1)) r51) (rec (IntKind.wrap .i64 (v_39 + 1)) o_44))
  else
    (kp0 o_44)
noncomputable def code_writer_expr_l1 (F : Fam_code_writer_expr) {R : Type} (N : Nat) (v_37 : List Expr) (v_38 : Int) (w_40 w_41 w_42 : List (List UInt8)) (w_43 : List Node) (e_45 e_46 : Int) (e_47 : List UInt8) (e_48 : List Expr) (e_49 : Int) (kp0 : (List Ins) → Option R) : Nat → Int → (List Ins) → Option R
  | 0 => fun _ _ => none
  | n + 1 => fun v_39 o_44 => code_writer_expr_l1_b F N v_37 v_38 w_40 w_41 w_42 w_43 e_45 e_46 e_47 e_48 e_49 kp0 (code_writer_expr_l1 F N v_37 v_38 w_40 w_41 w_42 w_43 e_45 e_46 e_47 e_48 e_49 kp0 n) v_39 o_44
noncomputable def code_writer_expr_c18 (F : Fam_code_writer_expr) {R : Type} (N : Nat) (v_10 : Bool) (w_11 w_12 w_13 : List (List UInt8)) (w_14 : List Node) (o_15 : List Ins) (e_16 e_17 : Int) (e_18 : List UInt8) (e_19 : List Expr) (e_20 : Int) (kp0 : (List Ins) → Option R) (kp1 : Option R) : Option R :=
  if v_10 = true then
    (if (((e_19.length : Nat) : Int) == 2) = true then
      (F.code_writer_both _ e_16 e_17 e_18 e_19 e_20 w_11 w_12 w_13 w_14 o_15 (fun (r21 : List Ins) =>
      kp0 r21))
    else
      (kp1 ))
  else
    (code_writer_expr_l1 F N e_19 ((e_19.length : Nat) : Int) w_11 w_12 w_13 w_14 e_16 e_17 e_18 e_19 e_20 (fun (y52 : List Ins) =>
    code_op N e_16 (fun (r53 : Int) =>
    code_writer_put_2 N r53 0 0 [] w_11 w_12 w_13 w_14 y52 (fun (r54 : Int) (r55 : List Ins) =>
    kp0 r55))) N 0 o_15)
noncomputable def code_writer_expr_d (F : Fam_code_writer_expr) {R : Type} (N : Nat) (Kind N_ : Int) (Name : List UInt8) (Kids : List Expr) (At : Int) (Vars Ports Timers : List (List UInt8)) (Nodes : List Node) (c : List Ins) (k0 : (List Ins) → Option R) (k1 : Option R) : Option R :=
  if (Kind == 1) = true then
    (code_writer_push N N_ Vars Ports Timers Nodes c (fun (r1 : List Ins) =>
    k0 r1))
  else
    (if (Kind == 2) = true then
      (slices_Index_string N Vars Name (fun (r2 : Int) =>
      code_writer_put_2 N 2 r2 0 [] Vars Ports Timers Nodes c (fun (r3 : Int) (r4 : List Ins) =>
      k0 r4)))
    else
      (if (Kind == 3) = true then
        (code_writer_put_2 N 3 0 0 [] Vars Ports Timers Nodes c (fun (r5 : Int) (r6 : List Ins) =>
        k0 r6))
      else
        (if (Kind == 4) = true then
          (flat_Find N Nodes Name (fun (r7 : Int) =>
          code_writer_put_2 N 4 r7 0 [] Vars Ports Timers Nodes c (fun (r8 : Int) (r9 : List Ins) =>
          k0 r9)))
        else
          (if (Kind == 18) = true then
            (code_writer_expr_c18 F N (Kind == 18) Vars Ports Timers Nodes c Kind N_ Name Kids At (fun (y56 : List Ins) =>
            k0 y56)
              (k1 ))
          else
            (code_writer_expr_c18 F N (Kind == 19) Vars Ports Timers Nodes c Kind N_ Name Kids At (fun (y57 : List Ins) =>
            k0 y57)
              (k1 ))))))
noncomputable def code_writer_expr_D (F : Fam_code_writer_expr) (hF : Fam_code_writer_expr_ok F) (N : Nat) : FD E0 := { f := 63, fn := Try.f63, q := code_writer_expr_q, loops := [{ cur := 1, live := [0, 3, 9, 10, 11], fix := [(⟨0, [4]⟩, .fresh .ins .own)], out := fun | .exit 1 => ([0, 3], []) | _ => ([], []), q := ⟨[.p 0 0 0, .p 3 0 0, .t .expr, .i .i64, .i .i64], [z8, .g, .rw .ins .own, z0]⟩, G := fun R K n a b c d e g h i j l m o p => code_writer_expr_l1 F N a b d e g h j l m o p (fun q => pK ⟨[.p 0 0 0, .p 3 0 0], [z8, .g, .rw .ins .own, z0]⟩ (K (.exit 1)) d e g h q j l m o p) n c i, B := fun R K rec a b c d e g h i j l m o p => code_writer_expr_l1_b F N a b d e g h j l m o p (fun q => pK ⟨[.p 0 0 0, .p 3 0 0], [z8, .g, .rw .ins .own, z0]⟩ (K (.exit 1)) d e g h q j l m o p) (fun c i => rec a b c d e g h i j l m o p) c i }], cuts := [{ key := 18, live := [0, 3, 62], out := fun | .normal => ([], []) | _ => ([], []), q := ⟨[.p 0 0 0, .p 2 0 0, .b], [z7, .rw .ins .own, z0]⟩, G := fun R K a b c d e g h i j l m => code_writer_expr_c18 F N a b c d e g h i j l m (pK ⟨[], [z8, .g, .rw .ins .own]⟩ (K .normal) b c d e) (pK ⟨[], [z7, .rw .ins .own]⟩ (K .normal) b c d e g) }], g := [⟨code_writer_expr_C F, hF.code_writer_expr⟩, slices_Index_string_S N, code_writer_push_S N, code_writer_put_2_S N, flat_Find_S N, ⟨code_writer_both_C F, hF.code_writer_both⟩, code_op_S N] }
theorem code_writer_expr_okF (F : Fam_code_writer_expr) (hF : Fam_code_writer_expr_ok F) (N : Nat) : Ct.ok E0 ⟨(code_writer_expr_D F hF N).f, (code_writer_expr_D F hF N).q, fun R k a b c d e g h i j l => code_writer_expr_d F N a b c d e g h i j l (oK ⟨.tp [], [z8, .g], [.rw .ins .own]⟩ k g h i j) (oK ⟨.tp [], [z7, .rw .ins .own], []⟩ k g h i j l)⟩ := FD.ct e0 (code_writer_expr_D F hF N) N (fun R k a b c d e g h i j l => code_writer_expr_d F N a b c d e g h i j l (oK ⟨.tp [], [z8, .g], [.rw .ins .own]⟩ k g h i j) (oK ⟨.tp [], [z7, .rw .ins .own], []⟩ k g h i j l))

noncomputable def code_writer_both_c7 (F : Fam_code_writer_expr) {R : Type} (N : Nat) (first_26 second_27 : Int) (w_28 w_29 w_30 : List (List UInt8)) (w_31 : List Node) (o_32 : List Ins) (kp0 : (List Ins) → Option R) : Option R :=
  code_writer_put_2 N 23 0 0 [] w_28 w_29 w_30 w_31 o_32 (fun (r33 : Int) (r34 : List Ins) =>
  code_writer_here N first_26 w_28 w_29 w_30 w_31 r34 (fun (r35 : List Ins) =>
  code_writer_here N second_27 w_28 w_29 w_30 w_31 r35 (fun (r36 : List Ins) =>
  code_writer_push N 0 w_28 w_29 w_30 w_31 r36 (fun (r37 : List Ins) =>
  code_writer_here N r33 w_28 w_29 w_30 w_31 r37 (fun (r38 : List Ins) =>
  kp0 r38)))))
noncomputable def code_writer_both_c5 (F : Fam_code_writer_expr) {R : Type} (N : Nat) (first_17 : Int) (w_18 w_19 w_20 : List (List UInt8)) (w_21 : List Node) (o_22 : List Ins) (kp0 : (List Ins) → Option R) : Option R :=
  code_writer_put_2 N 24 0 0 [] w_18 w_19 w_20 w_21 o_22 (fun (r23 : Int) (r24 : List Ins) =>
  code_writer_push N 1 w_18 w_19 w_20 w_21 r24 (fun (r25 : List Ins) =>
  code_writer_both_c7 F N first_17 r23 w_18 w_19 w_20 w_21 r25 (fun (y39 : List Ins) =>
  kp0 y39)))
noncomputable def code_writer_both_c17 (F : Fam_code_writer_expr) {R : Type} (N : Nat) (jump_67 second_68 : Int) (w_69 w_70 w_71 : List (List UInt8)) (w_72 : List Node) (o_73 : List Ins) (kp0 : (List Ins) → Option R) : Option R :=
  code_writer_push N 1 w_69 w_70 w_71 w_72 o_73 (fun (r74 : List Ins) =>
  code_writer_put_2 N 23 0 0 [] w_69 w_70 w_71 w_72 r74 (fun (r75 : Int) (r76 : List Ins) =>
  code_writer_here N second_68 w_69 w_70 w_71 w_72 r76 (fun (r77 : List Ins) =>
  code_writer_push N 0 w_69 w_70 w_71 w_72 r77 (fun (r78 : List Ins) =>
  code_writer_here N jump_67 w_69 w_70 w_71 w_72 r78 (fun (r79 : List Ins) =>
  code_writer_here N r75 w_69 w_70 w_71 w_72 r79 (fun (r80 : List Ins) =>
  kp0 r80))))))
noncomputable def code_writer_both_c16 (F : Fam_code_writer_expr) {R : Type} (N : Nat) (jump_59 : Int) (w_60 w_61 w_62 : List (List UInt8)) (w_63 : List Node) (o_64 : List Ins) (kp0 : (List Ins) → Option R) : Option R :=
  code_writer_put_2 N 24 0 0 [] w_60 w_61 w_62 w_63 o_64 (fun (r65 : Int) (r66 : List Ins) =>
  code_writer_both_c17 F N jump_59 r65 w_60 w_61 w_62 w_63 r66 (fun (y81 : List Ins) =>
  kp0 y81))
noncomputable def code_writer_both_c12 (F : Fam_code_writer_expr) {R : Type} (N : Nat) (first_42 : Int) (w_43 w_44 w_45 : List (List UInt8)) (w_46 : List Node) (o_47 : List Ins) (e_48 e_49 : Int) (e_50 : List UInt8) (e_51 : List Expr) (e_52 : Int) (kp0 : (List Ins) → Option R) : Option R :=
  code_writer_push N 1 w_43 w_44 w_45 w_46 o_47 (fun (r53 : List Ins) =>
  code_writer_put_2 N 23 0 0 [] w_43 w_44 w_45 w_46 r53 (fun (r54 : Int) (r55 : List Ins) =>
  code_writer_here N first_42 w_43 w_44 w_45 w_46 r55 (fun (r56 : List Ins) =>
  (at? e_51 1).bind fun e57 =>
  F.code_writer_expr _ e57.Kind e57.N e57.Name e57.Kids e57.At w_43 w_44 w_45 w_46 r56 (fun (r58 : List Ins) =>
  code_writer_both_c16 F N r54 w_43 w_44 w_45 w_46 r58 (fun (y82 : List Ins) =>
  kp0 y82)) (code_writer_both_c16 F N r54 w_43 w_44 w_45 w_46 r56 (fun (y83 : List Ins) =>
  kp0 y83)))))
noncomputable def code_writer_both_c2 (F : Fam_code_writer_expr) {R : Type} (N : Nat) (w_3 w_4 w_5 : List (List UInt8)) (w_6 : List Node) (o_7 : List Ins) (e_8 e_9 : Int) (e_10 : List UInt8) (e_11 : List Expr) (e_12 : Int) (kp0 kp1 : (List Ins) → Option R) : Option R :=
  code_writer_put_2 N 24 0 0 [] w_3 w_4 w_5 w_6 o_7 (fun (r13 : Int) (r14 : List Ins) =>
  if (e_8 == 18) = true then
    ((at? e_11 1).bind fun e15 =>
    F.code_writer_expr _ e15.Kind e15.N e15.Name e15.Kids e15.At w_3 w_4 w_5 w_6 r14 (fun (r16 : List Ins) =>
    code_writer_both_c5 F N r13 w_3 w_4 w_5 w_6 r16 (fun (y40 : List Ins) =>
    kp0 y40)) (code_writer_both_c5 F N r13 w_3 w_4 w_5 w_6 r14 (fun (y41 : List Ins) =>
    kp0 y41)))
  else
    (code_writer_both_c12 F N r13 w_3 w_4 w_5 w_6 r14 e_8 e_9 e_10 e_11 e_12 (fun (y84 : List Ins) =>
    kp1 y84)))
noncomputable def code_writer_both_d (F : Fam_code_writer_expr) {R : Type} (N : Nat) (Kind N_ : Int) (Name : List UInt8) (Kids : List Expr) (At : Int) (Vars Ports Timers : List (List UInt8)) (Nodes : List Node) (c : List Ins) (k0 : (List Ins) → Option R) : Option R :=
  (at? Kids 0).bind fun e1 =>
  F.code_writer_expr _ e1.Kind e1.N e1.Name e1.Kids e1.At Vars Ports Timers Nodes c (fun (r2 : List Ins) =>
  code_writer_both_c2 F N Vars Ports Timers Nodes r2 Kind N_ Name Kids At (fun (y85 : List Ins) =>
  k0 y85)
    (fun (y86 : List Ins) =>
  k0 y86)) (code_writer_both_c2 F N Vars Ports Timers Nodes c Kind N_ Name Kids At (fun (y87 : List Ins) =>
  k0 y87)
    (fun (y88 : List Ins) =>
  k0 y88))
noncomputable def code_writer_both_D (F : Fam_code_writer_expr) (hF : Fam_code_writer_expr_ok F) (N : Nat) : FD E0 := { f := 101, fn := Try.f101, q := code_writer_both_q, cuts := [{ key := 7, live := [0, 4, 5], out := fun | .ret => ([], []) | _ => ([], []), q := ⟨[.p 0 0 0, .i .i64, .i .i64], [z8, .g, .rw .ins .own]⟩, G := fun R K a b c d e g h => code_writer_both_c7 F N a b c d e g h (pK ⟨[], [z8, .g, .rw .ins .own]⟩ (K .ret) c d e g) }, { key := 5, live := [0, 4], out := fun | .ret => ([], []) | _ => ([], []), q := ⟨[.p 0 0 0, .i .i64], [z8, .g, .rw .ins .own]⟩, G := fun R K a b c d e g => code_writer_both_c5 F N a b c d e g (pK ⟨[], [z8, .g, .rw .ins .own]⟩ (K .ret) b c d e) }, { key := 17, live := [0, 7, 8], out := fun | .normal => ([], []) | _ => ([], []), q := ⟨[.p 0 0 0, .i .i64, .i .i64], [z8, .g, .rw .ins .own]⟩, G := fun R K a b c d e g h => code_writer_both_c17 F N a b c d e g h (pK ⟨[], [z8, .g, .rw .ins .own]⟩ (K .normal) c d e g) }, { key := 16, live := [0, 7], out := fun | .normal => ([], []) | _ => ([], []), q := ⟨[.p 0 0 0, .i .i64], [z8, .g, .rw .ins .own]⟩, G := fun R K a b c d e g => code_writer_both_c16 F N a b c d e g (pK ⟨[], [z8, .g, .rw .ins .own]⟩ (K .normal) b c d e) }, { key := 12, live := [0, 3, 4], out := fun | .normal => ([], []) | _ => ([], []), q := ⟨[.p 0 0 0, .p 3 0 0, .i .i64], [z8, .g, .rw .ins .own, z0]⟩, G := fun R K a b c d e g h i j l m => code_writer_both_c12 F N a b c d e g h i j l m (pK ⟨[], [z8, .g, .rw .ins .own]⟩ (K .normal) b c d e) }, { key := 2, live := [0, 3], fix := [(⟨0, [4]⟩, .fresh .ins .own)], out := fun | .ret => ([], []) | .normal => ([], []) | _ => ([], []), q := ⟨[.p 0 0 0, .p 3 0 0], [z8, .g, .rw .ins .own, z0]⟩, G := fun R K a b c d e g h i j l => code_writer_both_c2 F N a b c d e g h i j l (pK ⟨[], [z8, .g, .rw .ins .own]⟩ (K .ret) a b c d) (pK ⟨[], [z8, .g, .rw .ins .own]⟩ (K .normal) a b c d) }], g := [⟨code_writer_expr_C F, hF.code_writer_expr⟩, code_writer_push_S N, code_writer_put_2_S N, code_writer_here_S N] }
theorem code_writer_both_okF (F : Fam_code_writer_expr) (hF : Fam_code_writer_expr_ok F) (N : Nat) : Ct.ok E0 ⟨(code_writer_both_D F hF N).f, (code_writer_both_D F hF N).q, fun R k a b c d e g h i j l => code_writer_both_d F N a b c d e g h i j l (oK ⟨.tp [], [z8, .g], [.rw .ins .own]⟩ k g h i j)⟩ := FD.ct e0 (code_writer_both_D F hF N) N (fun R k a b c d e g h i j l => code_writer_both_d F N a b c d e g h i j l (oK ⟨.tp [], [z8, .g], [.rw .ins .own]⟩ k g h i j))

noncomputable def Fam_code_writer_expr_next (F : Fam_code_writer_expr) (N : Nat) : Fam_code_writer_expr where
  code_writer_expr := fun R Kind N_ Name Kids At Vars Ports Timers Nodes c k0 k1 => code_writer_expr_d F N Kind N_ Name Kids At Vars Ports Timers Nodes c k0 k1
  code_writer_both := fun R Kind N_ Name Kids At Vars Ports Timers Nodes c k0 => code_writer_both_d F N Kind N_ Name Kids At Vars Ports Timers Nodes c k0
noncomputable def Fam_code_writer_expr_at (N : Nat) : Nat → Fam_code_writer_expr
  | 0 => { code_writer_expr := fun _ _ _ _ _ _ _ _ _ _ _ _ _ => none, code_writer_both := fun _ _ _ _ _ _ _ _ _ _ _ _ => none }
  | d + 1 => Fam_code_writer_expr_next (Fam_code_writer_expr_at N d) N
theorem Fam_code_writer_expr_at_ok (N : Nat) : ∀ d, Fam_code_writer_expr_ok (Fam_code_writer_expr_at N d)
  | 0 => { code_writer_expr := Ct.ok_none, code_writer_both := Ct.ok_none }
  | d + 1 => { code_writer_expr := code_writer_expr_okF _ (Fam_code_writer_expr_at_ok N d) N, code_writer_both := code_writer_both_okF _ (Fam_code_writer_expr_at_ok N d) N }
noncomputable def code_writer_expr {R : Type} (N : Nat) (Kind N_ : Int) (Name : List UInt8) (Kids : List Expr) (At : Int) (Vars Ports Timers : List (List UInt8)) (Nodes : List Node) (c : List Ins) (k0 : (List Ins) → Option R) (k1 : Option R) : Option R := (Fam_code_writer_expr_at N N).code_writer_expr R Kind N_ Name Kids At Vars Ports Timers Nodes c k0 k1
theorem code_writer_expr_at {R : Type} (N d : Nat) (Kind N_ : Int) (Name : List UInt8) (Kids : List Expr) (At : Int) (Vars Ports Timers : List (List UInt8)) (Nodes : List Node) (c : List Ins) (k0 : (List Ins) → Option R) (k1 : Option R) : (Fam_code_writer_expr_at N (d + 1)).code_writer_expr R Kind N_ Name Kids At Vars Ports Timers Nodes c k0 k1 = code_writer_expr_d (Fam_code_writer_expr_at N d) N Kind N_ Name Kids At Vars Ports Timers Nodes c k0 k1 := rfl
noncomputable def code_writer_expr_S (N : Nat) : OC E0 := ⟨code_writer_expr_C (Fam_code_writer_expr_at N N), (Fam_code_writer_expr_at_ok N N).code_writer_expr⟩
noncomputable def code_writer_both {R : Type} (N : Nat) (Kind N_ : Int) (Name : List UInt8) (Kids : List Expr) (At : Int) (Vars Ports Timers : List (List UInt8)) (Nodes : List Node) (c : List Ins) (k0 : (List Ins) → Option R) : Option R := (Fam_code_writer_expr_at N N).code_writer_both R Kind N_ Name Kids At Vars Ports Timers Nodes c k0
theorem code_writer_both_at {R : Type} (N d : Nat) (Kind N_ : Int) (Name : List UInt8) (Kids : List Expr) (At : Int) (Vars Ports Timers : List (List UInt8)) (Nodes : List Node) (c : List Ins) (k0 : (List Ins) → Option R) : (Fam_code_writer_expr_at N (d + 1)).code_writer_both R Kind N_ Name Kids At Vars Ports Timers Nodes c k0 = code_writer_both_d (Fam_code_writer_expr_at N d) N Kind N_ Name Kids At Vars Ports Timers Nodes c k0 := rfl
noncomputable def code_writer_both_S (N : Nat) : OC E0 := ⟨code_writer_both_C (Fam_code_writer_expr_at N N), (Fam_code_writer_expr_at_ok N N).code_writer_both⟩

noncomputable def code_writer_number_l0_b {R : Type} (N : Nat) (v_19 : List Expr) (v_20 : Int) (w_22 w_23 w_24 : List (List UInt8)) (w_25 : List Node) (a_27 : Int) (a_28 a_29 : List UInt8) (a_30 : List Expr) (a_31 : Int) (a_32 a_33 : List Act) (a_34 : Int) (kp0 : (List Ins) → Option R) (rec : Int → (List Ins) → Option R) (v_21 : Int) (o_26 : List Ins) : Option R :=
  if (decide (v_21 < v_20)) = true then
    ((at? v_19 v_21).bind fun e35 =>
  code_writer_expr N e35.Kind e35.N e35.Name e35.Kids e35.At w_22 w_23 w_24 w_25 o_26 (fun (r36 : List Ins) =>
  rec (IntKind.wrap .i64 (v_21 + 1)) r36) (rec (IntKind.wrap .i64 (v_21 + 1)) o_26))
  else
    (kp0 o_26)
noncomputable def code_writer_number_l0 {R : Type} (N : Nat) (v_19 : List Expr) (v_20 : Int) (w_22 w_23 w_24 : List (List UInt8)) (w_25 : List Node) (a_27 : Int) (a_28 a_29 : List UInt8) (a_30 : List Expr) (a_31 : Int) (a_32 a_33 : List Act) (a_34 : Int) (kp0 : (List Ins) → Option R) : Nat → Int → (List Ins) → Option R
  | 0 => fun _ _ => none
  | n + 1 => fun v_21 o_26 => code_writer_number_l0_b N v_19 v_20 w_22 w_23 w_24 w_25 a_27 a_28 a_29 a_30 a_31 a_32 a_33 a_34 kp0 (code_writer_number_l0 N v_19 v_20 w_22 w_23 w_24 w_25 a_27 a_28 a_29 a_30 a_31 a_32 a_33 a_34 kp0 n) v_21 o_26
noncomputable def code_writer_number {R : Type} (N : Nat) (Kind : Int) (Name Event : List UInt8) (X : List Expr) (N_ : Int) (Then Else : List Act) (At : Int) (Vars Ports Timers : List (List UInt8)) (Nodes : List Node) (c : List Ins) (k0 : (List Ins) → Option R) : Option R :=
  code_writer_number_l0 N X ((X.length : Nat) : Int) Vars Ports Timers Nodes Kind Name Event X N_ Then Else At (fun (y37 : List Ins) =>
  if (((X.length : Nat) : Int) == 0) = true then
    (code_writer_push N 0 Vars Ports Timers Nodes y37 (fun (r38 : List Ins) =>
    k0 r38))
  else
    (k0 y37)) N 0 c
noncomputable def code_writer_number_D (N : Nat) : FD E0 := { f := 111, fn := Try.f111, q := ⟨[.p 0 0 0, y1], [z7, .rw .ins .own]⟩, loops := [{ cur := 0, live := [0, 3, 7, 8, 9], fix := [(⟨0, [4]⟩, .fresh .ins .own)], out := fun | .exit 0 => ([0, 3], []) | _ => ([], []), q := ⟨[.p 0 0 0, .p 3 0 0, .t .expr, .i .i64, .i .i64], [z8, .g, .rw .ins .own, z5]⟩, G := fun R K n a b c d e g h i j l m o p q s t => code_writer_number_l0 N a b d e g h j l m o p q s t (fun u => pK ⟨[.p 0 0 0, .p 3 0 0], [z8, .g, .rw .ins .own, z5]⟩ (K (.exit 0)) d e g h u j l m o p q s t) n c i, B := fun R K rec a b c d e g h i j l m o p q s t => code_writer_number_l0_b N a b d e g h j l m o p q s t (fun u => pK ⟨[.p 0 0 0, .p 3 0 0], [z8, .g, .rw .ins .own, z5]⟩ (K (.exit 0)) d e g h u j l m o p q s t) (fun c i => rec a b c d e g h i j l m o p q s t) c i }], g := [code_writer_expr_S N, code_writer_push_S N] }
noncomputable def code_writer_number_S (N : Nat) : OC E0 := ⟨_, FD.ct e0 (code_writer_number_D N) N (fun R k a b c d e g h i j l m o p => code_writer_number N a b c d e g h i j l m o p (oK ⟨.tp [], [z8, .g], [.rw .ins .own]⟩ k j l m o))⟩

noncomputable def code_writer_act_c3 {R : Type} (N : Nat) (w_2 w_3 w_4 : List (List UInt8)) (w_5 : List Node) (o_6 : List Ins) (a_7 : Int) (a_8 a_9 : List UInt8) (a_10 : List Expr) (a_11 : Int) (a_12 a_13 : List Act) (a_14 : Int) (kp0 : (List Ins) → Option R) : Option R :=
  if (a_7 == 1) = true then
    (slices_Index_string N w_2 a_8 (fun (r15 : Int) =>
    code_writer_put_2 N 18 r15 0 [] w_2 w_3 w_4 w_5 o_6 (fun (r16 : Int) (r17 : List Ins) =>
    kp0 r17)))
  else
    (if (a_7 == 2) = true then
      (code_writer_put_2 N 19 0 0 a_9 w_2 w_3 w_4 w_5 o_6 (fun (r18 : Int) (r19 : List Ins) =>
      kp0 r19))
    else
      (if (a_7 == 3) = true then
        (slices_Index_string N w_3 a_8 (fun (r20 : Int) =>
        code_writer_put_2 N 20 r20 0 a_9 w_2 w_3 w_4 w_5 o_6 (fun (r21 : Int) (r22 : List Ins) =>
        kp0 r22)))
      else
        (if (a_7 == 4) = true then
          (slices_Index_string N w_4 a_8 (fun (r23 : Int) =>
          code_writer_put_2 N 21 r23 0 [] w_2 w_3 w_4 w_5 o_6 (fun (r24 : Int) (r25 : List Ins) =>
          kp0 r25)))
        else
          (if (a_7 == 5) = true then
            (slices_Index_string N w_4 a_8 (fun (r26 : Int) =>
            code_writer_put_2 N 22 r26 0 [] w_2 w_3 w_4 w_5 o_6 (fun (r27 : Int) (r28 : List Ins) =>
            kp0 r28)))
          else
            (kp0 o_6)))))
noncomputable def code_writer_act {R : Type} (N : Nat) (Kind : Int) (Name Event : List UInt8) (X : List Expr) (N_ : Int) (Then Else : List Act) (At : Int) (Vars Ports Timers : List (List UInt8)) (Nodes : List Node) (c : List Ins) (k0 : (List Ins) → Option R) : Option R :=
  if (Kind != 5) = true then
    (code_writer_number N Kind Name Event X N_ Then Else At Vars Ports Timers Nodes c (fun (r1 : List Ins) =>
    code_writer_act_c3 N Vars Ports Timers Nodes r1 Kind Name Event X N_ Then Else At (fun (y29 : List Ins) =>
    k0 y29)))
  else
    (code_writer_act_c3 N Vars Ports Timers Nodes c Kind Name Event X N_ Then Else At (fun (y30 : List Ins) =>
    k0 y30))
noncomputable def code_writer_act_D (N : Nat) : FD E0 := { f := 81, fn := Try.f81, q := ⟨[.p 0 0 0, y1], [z7, .rw .ins .own]⟩, cuts := [{ key := 3, live := [0, 3], fix := [(⟨0, [4]⟩, .fresh .ins .own)], out := fun | .normal => ([], []) | _ => ([], []), q := ⟨[.p 0 0 0, .p 3 0 0], [z8, .g, .rw .ins .own, z5]⟩, G := fun R K a b c d e g h i j l m o p => code_writer_act_c3 N a b c d e g h i j l m o p (pK ⟨[], [z8, .g, .rw .ins .own]⟩ (K .normal) a b c d) }], g := [slices_Index_string_S N, code_writer_put_2_S N, code_writer_number_S N] }
noncomputable def code_writer_act_S (N : Nat) : OC E0 := ⟨_, FD.ct e0 (code_writer_act_D N) N (fun R k a b c d e g h i j l m o p => code_writer_act N a b c d e g h i j l m o p (oK ⟨.tp [], [z8, .g], [.rw .ins .own]⟩ k j l m o))⟩

structure Fam_code_writer_block_2 where
  code_writer_block_2 : (R : Type) → (List Act) → (List (List UInt8)) → (List (List UInt8)) → (List (List UInt8)) → (List Node) → (List Ins) → ((List Ins) → Option R) → Option R
  code_writer_loop_2 : (R : Type) → Int → (List UInt8) → (List UInt8) → (List Expr) → Int → (List Act) → (List Act) → Int → (List (List UInt8)) → (List (List UInt8)) → (List (List UInt8)) → (List Node) → (List Ins) → ((List Ins) → Option R) → Option R
  code_writer_choice : (R : Type) → Int → (List UInt8) → (List UInt8) → (List Expr) → Int → (List Act) → (List Act) → Int → (List (List UInt8)) → (List (List UInt8)) → (List (List UInt8)) → (List Node) → (List Ins) → ((List Ins) → Option R) → Option R

def code_writer_block_2_q : Pat S := ⟨[.p 0 0 0, .t .act], [z7, .rw .ins .own]⟩
noncomputable def code_writer_block_2_C (F : Fam_code_writer_block_2) : Ct S := ⟨48, code_writer_block_2_q, fun R k a b c d e g => F.code_writer_block_2 R a b c d e g (oK ⟨.tp [], [z8, .g], [.rw .ins .own]⟩ k b c d e)⟩
def code_writer_loop_2_q : Pat S := ⟨[.p 0 0 0, y1], [z7, .rw .ins .own]⟩
noncomputable def code_writer_loop_2_C (F : Fam_code_writer_block_2) : Ct S := ⟨79, code_writer_loop_2_q, fun R k a b c d e g h i j l m o p => F.code_writer_loop_2 R a b c d e g h i j l m o p (oK ⟨.tp [], [z8, .g], [.rw .ins .own]⟩ k j l m o)⟩
def code_writer_choice_q : Pat S := ⟨[.p 0 0 0, y1], [z7, .rw .ins .own]⟩
noncomputable def code_writer_choice_C (F : Fam_code_writer_block_2) : Ct S := ⟨80, code_writer_choice_q, fun R k a b c d e g h i j l m o p => F.code_writer_choice R a b c d e g h i j l m o p (oK ⟨.tp [], [z8, .g], [.rw .ins .own]⟩ k j l m o)⟩
structure Fam_code_writer_block_2_ok (F : Fam_code_writer_block_2) : Prop where
  code_writer_block_2 : (code_writer_block_2_C F).ok E0
  code_writer_loop_2 : (code_writer_loop_2_C F).ok E0
  code_writer_choice : (code_writer_choice_C F).ok E0

noncomputable def code_writer_block_2_l0_b (F : Fam_code_writer_block_2) {R : Type} (N : Nat) (v_11 : List Act) (v_12 : Int) (w_14 w_15 w_16 : List (List UInt8)) (w_17 : List Node) (kp0 : (List Ins) → Option R) (rec : Int → (List Ins) → Option R) (v_13 : Int) (o_18 : List Ins) : Option R :=
  if (decide (v_13 < v_12)) = true then
    ((at? v_11 v_13).bind fun e19 =>
  if (e19.Kind == 7) = true then
    (F.code_writer_loop_2 _ e19.Kind e19.Name e19.Event e19.X e19.N e19.Then e19.Else e19.At w_14 w_15 w_16 w_17 o_18 (fun (r20 : List Ins) =>
    rec (IntKind.wrap .i64 (v_13 + 1)) r20))
  else
    (if (e19.Kind == 6) = true then
      (F.code_writer_choice _ e19.Kind e19.Name e19.Event e19.X e19.N e19.Then e19.Else e19.At w_14 w_15 w_16 w_17 o_18 (fun (r21 : List Ins) =>
      rec (IntKind.wrap .i64 (v_13 + 1)) r21))
    else
      (code_writer_act N e19.Kind e19.Name e19.Event e19.X e19.N e19.Then e19.Else e19.At w_14 w_15 w_16 w_17 o_18 (fun (r22 : List Ins) =>
      rec (IntKind.wrap .i64 (v_13 + 1)) r22))))
  else
    (kp0 o_18)
noncomputable def code_writer_block_2_l0 (F : Fam_code_writer_block_2) {R : Type} (N : Nat) (v_11 : List Act) (v_12 : Int) (w_14 w_15 w_16 : List (List UInt8)) (w_17 : List Node) (kp0 : (List Ins) → Option R) : Nat → Int → (List Ins) → Option R
  | 0 => fun _ _ => none
  | n + 1 => fun v_13 o_18 => code_writer_block_2_l0_b F N v_11 v_12 w_14 w_15 w_16 w_17 kp0 (code_writer_block_2_l0 F N v_11 v_12 w_14 w_15 w_16 w_17 kp0 n) v_13 o_18
noncomputable def code_writer_block_2_d (F : Fam_code_writer_block_2) {R : Type} (N : Nat) (l : List Act) (Vars Ports Timers : List (List UInt8)) (Nodes : List Node) (c : List Ins) (k0 : (List Ins) → Option R) : Option R :=
  code_writer_block_2_l0 F N l ((l.length : Nat) : Int) Vars Ports Timers Nodes (fun (y23 : List Ins) =>
  k0 y23) N 0 c
noncomputable def code_writer_block_2_D (F : Fam_code_writer_block_2) (hF : Fam_code_writer_block_2_ok F) (N : Nat) : FD E0 := { f := 48, fn := Try.f48, q := code_writer_block_2_q, loops := [{ cur := 0, live := [0, 6, 7, 8], fix := [(⟨0, [4]⟩, .fresh .ins .own)], out := fun | .exit 0 => ([], []) | _ => ([], []), q := ⟨[.p 0 0 0, .t .act, .i .i64, .i .i64], [z8, .g, .rw .ins .own]⟩, G := fun R K n a b c d e g h i => code_writer_block_2_l0 F N a b d e g h (pK ⟨[], [z8, .g, .rw .ins .own]⟩ (K (.exit 0)) d e g h) n c i, B := fun R K rec a b c d e g h i => code_writer_block_2_l0_b F N a b d e g h (pK ⟨[], [z8, .g, .rw .ins .own]⟩ (K (.exit 0)) d e g h) (fun c i => rec a b c d e g h i) c i }], g := [⟨code_writer_loop_2_C F, hF.code_writer_loop_2⟩, ⟨code_writer_choice_C F, hF.code_writer_choice⟩, code_writer_act_S N] }
theorem code_writer_block_2_okF (F : Fam_code_writer_block_2) (hF : Fam_code_writer_block_2_ok F) (N : Nat) : Ct.ok E0 ⟨(code_writer_block_2_D F hF N).f, (code_writer_block_2_D F hF N).q, fun R k a b c d e g => code_writer_block_2_d F N a b c d e g (oK ⟨.tp [], [z8, .g], [.rw .ins .own]⟩ k b c d e)⟩ := FD.ct e0 (code_writer_block_2_D F hF N) N (fun R k a b c d e g => code_writer_block_2_d F N a b c d e g (oK ⟨.tp [], [z8, .g], [.rw .ins .own]⟩ k b c d e))

noncomputable def code_writer_loop_2_d (F : Fam_code_writer_block_2) {R : Type} (N : Nat) (Kind : Int) (Name Event : List UInt8) (X : List Expr) (N_ : Int) (Then Else : List Act) (At : Int) (Vars Ports Timers : List (List UInt8)) (Nodes : List Node) (c : List Ins) (k0 : (List Ins) → Option R) : Option R :=
  code_writer_put_2 N 25 0 N_ [] Vars Ports Timers Nodes c (fun (r1 : Int) (r2 : List Ins) =>
  F.code_writer_block_2 _ Then Vars Ports Timers Nodes r2 (fun (r3 : List Ins) =>
  code_writer_put_2 N 26 r1 0 [] Vars Ports Timers Nodes r3 (fun (r4 : Int) (r5 : List Ins) =>
  code_writer_here N r1 Vars Ports Timers Nodes r5 (fun (r6 : List Ins) =>
  k0 r6))))
noncomputable def code_writer_loop_2_D (F : Fam_code_writer_block_2) (hF : Fam_code_writer_block_2_ok F) (N : Nat) : FD E0 := { f := 79, fn := Try.f79, q := code_writer_loop_2_q, g := [⟨code_writer_block_2_C F, hF.code_writer_block_2⟩, code_writer_put_2_S N, code_writer_here_S N] }
theorem code_writer_loop_2_okF (F : Fam_code_writer_block_2) (hF : Fam_code_writer_block_2_ok F) (N : Nat) : Ct.ok E0 ⟨(code_writer_loop_2_D F hF N).f, (code_writer_loop_2_D F hF N).q, fun R k a b c d e g h i j l m o p => code_writer_loop_2_d F N a b c d e g h i j l m o p (oK ⟨.tp [], [z8, .g], [.rw .ins .own]⟩ k j l m o)⟩ := FD.ct e0 (code_writer_loop_2_D F hF N) N (fun R k a b c d e g h i j l m o p => code_writer_loop_2_d F N a b c d e g h i j l m o p (oK ⟨.tp [], [z8, .g], [.rw .ins .own]⟩ k j l m o))

noncomputable def code_writer_choice_c7 (F : Fam_code_writer_block_2) {R : Type} (N : Nat) (no_8 jump_9 : Int) (w_10 w_11 w_12 : List (List UInt8)) (w_13 : List Node) (o_14 : List Ins) (a_15 : Int) (a_16 a_17 : List UInt8) (a_18 : List Expr) (a_19 : Int) (a_20 a_21 : List Act) (a_22 : Int) (kp0 : (List Ins) → Option R) : Option R :=
  code_writer_here N no_8 w_10 w_11 w_12 w_13 o_14 (fun (r23 : List Ins) =>
  F.code_writer_block_2 _ a_21 w_10 w_11 w_12 w_13 r23 (fun (r24 : List Ins) =>
  code_writer_here N jump_9 w_10 w_11 w_12 w_13 r24 (fun (r25 : List Ins) =>
  kp0 r25)))
noncomputable def code_writer_choice_d (F : Fam_code_writer_block_2) {R : Type} (N : Nat) (Kind : Int) (Name Event : List UInt8) (X : List Expr) (N_ : Int) (Then Else : List Act) (At : Int) (Vars Ports Timers : List (List UInt8)) (Nodes : List Node) (c : List Ins) (k0 : (List Ins) → Option R) : Option R :=
  code_writer_number N Kind Name Event X N_ Then Else At Vars Ports Timers Nodes c (fun (r1 : List Ins) =>
  code_writer_put_2 N 24 0 0 [] Vars Ports Timers Nodes r1 (fun (r2 : Int) (r3 : List Ins) =>
  F.code_writer_block_2 _ Then Vars Ports Timers Nodes r3 (fun (r4 : List Ins) =>
  if (((Else.length : Nat) : Int) == 0) = true then
    (code_writer_here N r2 Vars Ports Timers Nodes r4 (fun (r5 : List Ins) =>
    k0 r5))
  else
    (code_writer_put_2 N 23 0 0 [] Vars Ports Timers Nodes r4 (fun (r6 : Int) (r7 : List Ins) =>
  code_writer_choice_c7 F N r2 r6 Vars Ports Timers Nodes r7 Kind Name Event X N_ Then Else At (fun (y26 : List Ins) =>
  k0 y26))))))
noncomputable def code_writer_choice_D (F : Fam_code_writer_block_2) (hF : Fam_code_writer_block_2_ok F) (N : Nat) : FD E0 := { f := 80, fn := Try.f80, q := code_writer_choice_q, cuts := [{ key := 7, live := [0, 3, 4, 5], out := fun | .normal => ([], []) | _ => ([], []), q := ⟨[.p 0 0 0, .p 3 0 0, .i .i64, .i .i64], [z8, .g, .rw .ins .own, z5]⟩, G := fun R K a b c d e g h i j l m o p q s => code_writer_choice_c7 F N a b c d e g h i j l m o p q s (pK ⟨[], [z8, .g, .rw .ins .own]⟩ (K .normal) c d e g) }], g := [⟨code_writer_block_2_C F, hF.code_writer_block_2⟩, code_writer_put_2_S N, code_writer_here_S N, code_writer_number_S N] }
theorem code_writer_choice_okF (F : Fam_code_writer_block_2) (hF : Fam_code_writer_block_2_ok F) (N : Nat) : Ct.ok E0 ⟨(code_writer_choice_D F hF N).f, (code_writer_choice_D F hF N).q, fun R k a b c d e g h i j l m o p => code_writer_choice_d F N a b c d e g h i j l m o p (oK ⟨.tp [], [z8, .g], [.rw .ins .own]⟩ k j l m o)⟩ := FD.ct e0 (code_writer_choice_D F hF N) N (fun R k a b c d e g h i j l m o p => code_writer_choice_d F N a b c d e g h i j l m o p (oK ⟨.tp [], [z8, .g], [.rw .ins .own]⟩ k j l m o))

noncomputable def Fam_code_writer_block_2_next (F : Fam_code_writer_block_2) (N : Nat) : Fam_code_writer_block_2 where
  code_writer_block_2 := fun R l Vars Ports Timers Nodes c k0 => code_writer_block_2_d F N l Vars Ports Timers Nodes c k0
  code_writer_loop_2 := fun R Kind Name Event X N_ Then Else At Vars Ports Timers Nodes c k0 => code_writer_loop_2_d F N Kind Name Event X N_ Then Else At Vars Ports Timers Nodes c k0
  code_writer_choice := fun R Kind Name Event X N_ Then Else At Vars Ports Timers Nodes c k0 => code_writer_choice_d F N Kind Name Event X N_ Then Else At Vars Ports Timers Nodes c k0
noncomputable def Fam_code_writer_block_2_at (N : Nat) : Nat → Fam_code_writer_block_2
  | 0 => { code_writer_block_2 := fun _ _ _ _ _ _ _ _ => none, code_writer_loop_2 := fun _ _ _ _ _ _ _ _ _ _ _ _ _ _ _ => none, code_writer_choice := fun _ _ _ _ _ _ _ _ _ _ _ _ _ _ _ => none }
  | d + 1 => Fam_code_writer_block_2_next (Fam_code_writer_block_2_at N d) N
theorem Fam_code_writer_block_2_at_ok (N : Nat) : ∀ d, Fam_code_writer_block_2_ok (Fam_code_writer_block_2_at N d)
  | 0 => { code_writer_block_2 := Ct.ok_none, code_writer_loop_2 := Ct.ok_none, code_writer_choice := Ct.ok_none }
  | d + 1 => { code_writer_block_2 := code_writer_block_2_okF _ (Fam_code_writer_block_2_at_ok N d) N, code_writer_loop_2 := code_writer_loop_2_okF _ (Fam_code_writer_block_2_at_ok N d) N, code_writer_choice := code_writer_choice_okF _ (Fam_code_writer_block_2_at_ok N d) N }
noncomputable def code_writer_block_2 {R : Type} (N : Nat) (l : List Act) (Vars Ports Timers : List (List UInt8)) (Nodes : List Node) (c : List Ins) (k0 : (List Ins) → Option R) : Option R := (Fam_code_writer_block_2_at N N).code_writer_block_2 R l Vars Ports Timers Nodes c k0
theorem code_writer_block_2_at {R : Type} (N d : Nat) (l : List Act) (Vars Ports Timers : List (List UInt8)) (Nodes : List Node) (c : List Ins) (k0 : (List Ins) → Option R) : (Fam_code_writer_block_2_at N (d + 1)).code_writer_block_2 R l Vars Ports Timers Nodes c k0 = code_writer_block_2_d (Fam_code_writer_block_2_at N d) N l Vars Ports Timers Nodes c k0 := rfl
noncomputable def code_writer_block_2_S (N : Nat) : OC E0 := ⟨code_writer_block_2_C (Fam_code_writer_block_2_at N N), (Fam_code_writer_block_2_at_ok N N).code_writer_block_2⟩
noncomputable def code_writer_loop_2 {R : Type} (N : Nat) (Kind : Int) (Name Event : List UInt8) (X : List Expr) (N_ : Int) (Then Else : List Act) (At : Int) (Vars Ports Timers : List (List UInt8)) (Nodes : List Node) (c : List Ins) (k0 : (List Ins) → Option R) : Option R := (Fam_code_writer_block_2_at N N).code_writer_loop_2 R Kind Name Event X N_ Then Else At Vars Ports Timers Nodes c k0
theorem code_writer_loop_2_at {R : Type} (N d : Nat) (Kind : Int) (Name Event : List UInt8) (X : List Expr) (N_ : Int) (Then Else : List Act) (At : Int) (Vars Ports Timers : List (List UInt8)) (Nodes : List Node) (c : List Ins) (k0 : (List Ins) → Option R) : (Fam_code_writer_block_2_at N (d + 1)).code_writer_loop_2 R Kind Name Event X N_ Then Else At Vars Ports Timers Nodes c k0 = code_writer_loop_2_d (Fam_code_writer_block_2_at N d) N Kind Name Event X N_ Then Else At Vars Ports Timers Nodes c k0 := rfl
noncomputable def code_writer_loop_2_S (N : Nat) : OC E0 := ⟨code_writer_loop_2_C (Fam_code_writer_block_2_at N N), (Fam_code_writer_block_2_at_ok N N).code_writer_loop_2⟩
noncomputable def code_writer_choice {R : Type} (N : Nat) (Kind : Int) (Name Event : List UInt8) (X : List Expr) (N_ : Int) (Then Else : List Act) (At : Int) (Vars Ports Timers : List (List UInt8)) (Nodes : List Node) (c : List Ins) (k0 : (List Ins) → Option R) : Option R := (Fam_code_writer_block_2_at N N).code_writer_choice R Kind Name Event X N_ Then Else At Vars Ports Timers Nodes c k0
theorem code_writer_choice_at {R : Type} (N d : Nat) (Kind : Int) (Name Event : List UInt8) (X : List Expr) (N_ : Int) (Then Else : List Act) (At : Int) (Vars Ports Timers : List (List UInt8)) (Nodes : List Node) (c : List Ins) (k0 : (List Ins) → Option R) : (Fam_code_writer_block_2_at N (d + 1)).code_writer_choice R Kind Name Event X N_ Then Else At Vars Ports Timers Nodes c k0 = code_writer_choice_d (Fam_code_writer_block_2_at N d) N Kind Name Event X N_ Then Else At Vars Ports Timers Nodes c k0 := rfl
noncomputable def code_writer_choice_S (N : Nat) : OC E0 := ⟨code_writer_choice_C (Fam_code_writer_block_2_at N N), (Fam_code_writer_block_2_at_ok N N).code_writer_choice⟩

noncomputable def code_writer_loop {R : Type} (N : Nat) (Kind : Int) (Name Event : List UInt8) (X : List Expr) (N_ : Int) (Then Else : List Act) (At : Int) (Vars Ports Timers : List (List UInt8)) (Nodes : List Node) (k0 : (List Ins) → Option R) : Option R :=
  code_writer_put N 25 0 N_ [] Vars Ports Timers Nodes (fun (r1 : Int) (r2 : List Ins) =>
  code_writer_block_2 N Then Vars Ports Timers Nodes r2 (fun (r3 : List Ins) =>
  code_writer_put_2 N 26 r1 0 [] Vars Ports Timers Nodes r3 (fun (r4 : Int) (r5 : List Ins) =>
  code_writer_here N r1 Vars Ports Timers Nodes r5 (fun (r6 : List Ins) =>
  k0 r6))))
noncomputable def code_writer_loop_D (N : Nat) : FD E0 := { f := 79, fn := Try.f79, q := ⟨[.p 0 0 0, y1], [z6]⟩, g := [code_writer_block_2_S N, code_writer_put_S N, code_writer_put_2_S N, code_writer_here_S N] }
noncomputable def code_writer_loop_S (N : Nat) : OC E0 := ⟨_, FD.ct e0 (code_writer_loop_D N) N (fun R k a b c d e g h i j l m o => code_writer_loop N a b c d e g h i j l m o (oK ⟨.tp [], [z7], [.rw .ins .own]⟩ k j l m o))⟩

noncomputable def code_writer_block_l0_b {R : Type} (N : Nat) (v_10 : List Act) (v_11 : Int) (w_13 w_14 w_15 : List (List UInt8)) (w_16 : List Node) (kp0 : (List Ins) → Option R) (rec : Int → (List Ins) → Option R) (v_12 : Int) (o_17 : List Ins) : Option R :=
  if (decide (v_12 < v_11)) = true then
    ((at? v_10 v_12).bind fun e18 =>
  if (e18.Kind == 7) = true then
    (code_writer_loop_2 N e18.Kind e18.Name e18.Event e18.X e18.N e18.Then e18.Else e18.At w_13 w_14 w_15 w_16 o_17 (fun (r19 : List Ins) =>
    rec (IntKind.wrap .i64 (v_12 + 1)) r19))
  else
    (if (e18.Kind == 6) = true then
      (code_writer_choice N e18.Kind e18.Name e18.Event e18.X e18.N e18.Then e18.Else e18.At w_13 w_14 w_15 w_16 o_17 (fun (r20 : List Ins) =>
      rec (IntKind.wrap .i64 (v_12 + 1)) r20))
    else
      (code_writer_act N e18.Kind e18.Name e18.Event e18.X e18.N e18.Then e18.Else e18.At w_13 w_14 w_15 w_16 o_17 (fun (r21 : List Ins) =>
      rec (IntKind.wrap .i64 (v_12 + 1)) r21))))
  else
    (kp0 o_17)
noncomputable def code_writer_block_l0 {R : Type} (N : Nat) (v_10 : List Act) (v_11 : Int) (w_13 w_14 w_15 : List (List UInt8)) (w_16 : List Node) (kp0 : (List Ins) → Option R) : Nat → Int → (List Ins) → Option R
  | 0 => fun _ _ => none
  | n + 1 => fun v_12 o_17 => code_writer_block_l0_b N v_10 v_11 w_13 w_14 w_15 w_16 kp0 (code_writer_block_l0 N v_10 v_11 w_13 w_14 w_15 w_16 kp0 n) v_12 o_17
noncomputable def code_writer_block {R : Type} (N : Nat) (l : List Act) (Vars Ports Timers : List (List UInt8)) (Nodes : List Node) (k0 : (List Ins) → Option R) : Option R :=
  code_writer_block_l0 N l ((l.length : Nat) : Int) Vars Ports Timers Nodes (fun (y22 : List Ins) =>
  k0 y22) N 0 ([] : List Ins)
noncomputable def code_writer_block_D (N : Nat) : FD E0 := { f := 48, fn := Try.f48, q := ⟨[.p 0 0 0, .t .act], [z6]⟩, loops := [{ cur := 0, live := [0, 6, 7, 8], fix := [(⟨0, [4]⟩, .row .ins .own)], out := fun | .exit 0 => ([], []) | _ => ([], []), q := ⟨[.p 0 0 0, .t .act, .i .i64, .i .i64], [z7, .rw .ins .own]⟩, G := fun R K n a b c d e g h i => code_writer_block_l0 N a b d e g h (pK ⟨[], [z7, .rw .ins .own]⟩ (K (.exit 0)) d e g h) n c i, B := fun R K rec a b c d e g h i => code_writer_block_l0_b N a b d e g h (pK ⟨[], [z7, .rw .ins .own]⟩ (K (.exit 0)) d e g h) (fun c i => rec a b c d e g h i) c i }], g := [code_writer_loop_S N, code_writer_loop_2_S N, code_writer_choice_S N, code_writer_act_S N] }
noncomputable def code_writer_block_S (N : Nat) : OC E0 := ⟨_, FD.ct e0 (code_writer_block_D N) N (fun R k a b c d e => code_writer_block N a b c d e (oK ⟨.tp [], [z7], [.rw .ins .own]⟩ k b c d e))⟩

def y4 : Sh S := .ag [.t .str, .t .str, .t .str, .t .node]
noncomputable def code_Block {R : Type} (N : Nat) (l : List Act) (Vars Ports Timers : List (List UInt8)) (Nodes : List Node) (k0 : (List Ins) → Option R) : Option R :=
  code_writer_block N l Vars Ports Timers Nodes (fun (r1 : List Ins) =>
  k0 r1)
noncomputable def code_Block_D (N : Nat) : FD E0 := { f := 27, fn := Try.f27, q := ⟨[.t .act, y4], []⟩, g := [code_writer_block_S N], exit := [(⟨4, []⟩, .tree .ins)] }
noncomputable def code_Block_S (N : Nat) : OC E0 := ⟨_, FD.ct e0 (code_Block_D N) N (fun R k a b c d e => code_Block N a b c d e (oK ⟨.t .ins, [], []⟩ k))⟩

def z9 : ShO S := .bx [.i .i64, .i .i64, .i .i64, .st]
noncomputable def code_Most_l2_b {R : Type} (N : Nat) (sum_24 at_26 : Int) (v_27 : List Ins) (v_28 v_29 i_32 i_33 i_34 : Int) (i_35 : List UInt8) (kp0 : Int → (List Int) → (List Int) → Option R) (rec : Int → (List Int) → (List Int) → Option R) (times_25 : Int) (ends_30 was_31 : List Int) : Option R :=
  (ifB (decide (((ends_30.length : Nat) : Int) > 0)) true (if (0 : Int) ≤ IntKind.wrap .i64 (((ends_30.length : Nat) : Int) - 1) ∧ IntKind.wrap .i64 (((ends_30.length : Nat) : Int) - 1) < (ends_30.length : Int) then (match ends_30[(IntKind.wrap .i64 (((ends_30.length : Nat) : Int) - 1)).toNat]? with
    | some e36 => (some (decide (e36 ≤ at_26)))
    | none => none) else none) (some false)).bind fun c37 =>
  if c37 = true then
    (if (0 : Int) ≤ IntKind.wrap .i64 (((was_31.length : Nat) : Int) - 1) ∧ IntKind.wrap .i64 (((was_31.length : Nat) : Int) - 1) < (was_31.length : Int) then (match was_31[(IntKind.wrap .i64 (((was_31.length : Nat) : Int) - 1)).toNat]? with
    | some e38 => (if (0 : Int) ≤ 0 ∧ 0 ≤ IntKind.wrap .i64 (((ends_30.length : Nat) : Int) - 1) ∧ IntKind.wrap .i64 (((ends_30.length : Nat) : Int) - 1) ≤ ((ends_30.length : Nat) : Int) then (if (0 : Int) ≤ 0 ∧ 0 ≤ IntKind.wrap .i64 (((was_31.length : Nat) : Int) - 1) ∧ IntKind.wrap .i64 (((was_31.length : Nat) : Int) - 1) ≤ ((was_31.length : Nat) : Int) then (rec e38 (ends_30.take ((IntKind.wrap .i64 (((ends_30.length : Nat) : Int) - 1)).toNat - (Int.toNat 0))) (was_31.take ((IntKind.wrap .i64 (((was_31.length : Nat) : Int) - 1)).toNat - (Int.toNat 0)))) else none) else none)
    | none => none) else none)
  else
    (kp0 times_25 ends_30 was_31)
noncomputable def code_Most_l2 {R : Type} (N : Nat) (sum_24 at_26 : Int) (v_27 : List Ins) (v_28 v_29 i_32 i_33 i_34 : Int) (i_35 : List UInt8) (kp0 : Int → (List Int) → (List Int) → Option R) : Nat → Int → (List Int) → (List Int) → Option R
  | 0 => fun _ _ _ => none
  | n + 1 => fun times_25 ends_30 was_31 => code_Most_l2_b N sum_24 at_26 v_27 v_28 v_29 i_32 i_33 i_34 i_35 kp0 (code_Most_l2 N sum_24 at_26 v_27 v_28 v_29 i_32 i_33 i_34 i_35 kp0 n) times_25 ends_30 was_31
noncomputable def code_Most_l0_b {R : Type} (N : Nat) (v_3 : List Ins) (v_4 : Int) (kp0 : Int → Option R) (rec : Int → Int → Int → (List Int) → (List Int) → Option R) (sum_1 times_2 v_5 : Int) (ends_6 was_7 : List Int) : Option R :=
  if (decide (v_5 < v_4)) = true then
    ((at? v_3 v_5).bind fun e8 =>
  code_Most_l2 N sum_1 v_5 v_3 v_4 v_5 e8.Op e8.A e8.N e8.S (fun (y39 : Int) (y40 : List Int) (y41 : List Int) =>
  if (e8.Op == 25) = true then
    (if y40.length + [e8.A].length ≤ maxRow then (if y41.length + [y39].length ≤ maxRow then (rec (IntKind.wrap .i64 (sum_1 + y39)) (IntKind.wrap .i64 (y39 * e8.N)) (IntKind.wrap .i64 (v_5 + 1)) (y40 ++ [e8.A]) (y41 ++ [y39])) else none) else none)
  else
    (rec (IntKind.wrap .i64 (sum_1 + y39)) y39 (IntKind.wrap .i64 (v_5 + 1)) y40 y41)) N times_2 ends_6 was_7)
  else
    (kp0 sum_1)
noncomputable def code_Most_l0 {R : Type} (N : Nat) (v_3 : List Ins) (v_4 : Int) (kp0 : Int → Option R) : Nat → Int → Int → Int → (List Int) → (List Int) → Option R
  | 0 => fun _ _ _ _ _ => none
  | n + 1 => fun sum_1 times_2 v_5 ends_6 was_7 => code_Most_l0_b N v_3 v_4 kp0 (code_Most_l0 N v_3 v_4 kp0 n) sum_1 times_2 v_5 ends_6 was_7
noncomputable def code_Most {R : Type} (N : Nat) (c : List Ins) (k0 : Int → Option R) : Option R :=
  code_Most_l0 N c ((c.length : Nat) : Int) (fun (y42 : Int) =>
  k0 y42) N 0 1 0 ([] : List Int) ([] : List Int)
noncomputable def code_Most_D (N : Nat) : FD E0 := { f := 26, fn := Try.f26, q := ⟨[.t .ins], []⟩, loops := [{ cur := 2, live := [3, 4, 5, 6, 7, 8, 9, 10, 11], fix := [(⟨5, []⟩, .fresh .int .own), (⟨6, []⟩, .fresh .i64 .own)], out := fun | .exit 2 => ([3, 4, 5, 6, 8, 9, 10, 11], []) | _ => ([], []), q := ⟨[.i .i64, .i .i64, .sw 0, .sw 1, .i .i64, .p 2 0 0, .t .ins, .i .i64, .i .i64], [.rw .int .own, .rw .i64 .own, z9]⟩, G := fun R K n a b c d e g h i j l m o => code_Most_l2 N a c d e g j l m o (fun p q s => pK ⟨[.i .i64, .i .i64, .sw 0, .sw 1, .p 2 0 0, .t .ins, .i .i64, .i .i64], [.rw .int .own, .rw .i64 .own, z9]⟩ (K (.exit 2)) a p d e g q s j l m o) n b h i, B := fun R K rec a b c d e g h i j l m o => code_Most_l2_b N a c d e g j l m o (fun p q s => pK ⟨[.i .i64, .i .i64, .sw 0, .sw 1, .p 2 0 0, .t .ins, .i .i64, .i .i64], [.rw .int .own, .rw .i64 .own, z9]⟩ (K (.exit 2)) a p d e g q s j l m o) (fun b h i => rec a b c d e g h i j l m o) b h i }, { cur := 0, live := [3, 4, 5, 6, 9, 10, 11], fix := [(⟨5, []⟩, .row .int .own), (⟨6, []⟩, .row .i64 .own)], out := fun | .exit 0 => ([3], []) | _ => ([], []), q := ⟨[.i .i64, .i .i64, .sw 0, .sw 1, .t .ins, .i .i64, .i .i64], [.rw .int .own, .rw .i64 .own]⟩, G := fun R K n a b c d e g h => code_Most_l0 N c d (pK ⟨[.i .i64], []⟩ (K (.exit 0))) n a b e g h, B := fun R K rec a b c d e g h => code_Most_l0_b N c d (pK ⟨[.i .i64], []⟩ (K (.exit 0))) (fun a b e g h => rec a b c d e g h) a b e g h }], mode := fun | 54 => .own | 55 => .own | 58 => .own | 59 => .own | _ => .app }
noncomputable def code_Most_S (N : Nat) : OC E0 := ⟨_, FD.ct e0 (code_Most_D N) N (fun R k a => code_Most N a (oK ⟨.i .i64, [], []⟩ k))⟩

end Ef
