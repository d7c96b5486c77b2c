/- E5_3: a part of the proof of EffectErrs: lemmas on the evaluator and on the functions that the law reaches. -/
import Derived.Test.YtfpfmibcnldepaaE5x2
set_option maxRecDepth 100000
set_option linter.unusedVariables false
namespace Ef
open Go TE Go.Proofs
noncomputable def Fam_code_writer_expr_2_next (F : Fam_code_writer_expr_2) (N : Nat) : Fam_code_writer_expr_2 where
  code_writer_expr_2 := fun R Kind N_ Name Kids At Vars Ports Timers Nodes c k0 k1 => code_writer_expr_2_d F N Kind N_ Name Kids At Vars Ports Timers Nodes c k0 k1
  code_writer_both_2 := fun R Kind N_ Name Kids At Vars Ports Timers Nodes c k0 => code_writer_both_2_d F N Kind N_ Name Kids At Vars Ports Timers Nodes c k0
noncomputable def Fam_code_writer_expr_2_at (N : Nat) : Nat → Fam_code_writer_expr_2
  | 0 => { code_writer_expr_2 := fun _ _ _ _ _ _ _ _ _ _ _ _ _ => none, code_writer_both_2 := fun _ _ _ _ _ _ _ _ _ _ _ _ => none }
  | d + 1 => Fam_code_writer_expr_2_next (Fam_code_writer_expr_2_at N d) N
theorem Fam_code_writer_expr_2_at_ok (N : Nat) : ∀ d, Fam_code_writer_expr_2_ok (Fam_code_writer_expr_2_at N d)
  | 0 => { code_writer_expr_2 := Ct.ok_none, code_writer_both_2 := Ct.ok_none }
  | d + 1 => { code_writer_expr_2 := code_writer_expr_2_okF _ (Fam_code_writer_expr_2_at_ok N d) N, code_writer_both_2 := code_writer_both_2_okF _ (Fam_code_writer_expr_2_at_ok N d) N }
noncomputable def code_writer_expr_2 {R : Type} (N : Nat) (Kind N_ : Int) (Name : List UInt8) (Kids : List Expr) (At : Int) (Vars Ports Timers : List (List UInt8)) (Nodes : List Node) (c : List Ins) (k0 : (List Ins) → Option R) (k1 : Option R) : Option R := (Fam_code_writer_expr_2_at N N).code_writer_expr_2 R Kind N_ Name Kids At Vars Ports Timers Nodes c k0 k1
noncomputable def code_writer_expr_2_S (N : Nat) : OC E0 := ⟨code_writer_expr_2_C (Fam_code_writer_expr_2_at N N), (Fam_code_writer_expr_2_at_ok N N).code_writer_expr_2⟩
noncomputable def code_writer_both_2 {R : Type} (N : Nat) (Kind N_ : Int) (Name : List UInt8) (Kids : List Expr) (At : Int) (Vars Ports Timers : List (List UInt8)) (Nodes : List Node) (c : List Ins) (k0 : (List Ins) → Option R) : Option R := (Fam_code_writer_expr_2_at N N).code_writer_both_2 R Kind N_ Name Kids At Vars Ports Timers Nodes c k0
structure Fam_code_writer_expr where
  code_writer_expr : (R : Type) → Int → Int → (List UInt8) → (List Expr) → Int → (List (List UInt8)) → (List (List UInt8)) → (List (List UInt8)) → (List Node) → ((List Ins) → Option R) → Option R
  code_writer_both : (R : Type) → Int → Int → (List UInt8) → (List Expr) → Int → (List (List UInt8)) → (List (List UInt8)) → (List (List UInt8)) → (List Node) → ((List Ins) → Option R) → Option R

def code_writer_expr_q : Pat S := ⟨[.p 0 0 0, y2], [z2]⟩
noncomputable def code_writer_expr_C (F : Fam_code_writer_expr) : Ct S := ⟨63, code_writer_expr_q, fun R k a b c d e g h i j => F.code_writer_expr R a b c d e g h i j (oK ⟨.tp [], [z3], [.rw .ins .own]⟩ k g h i j)⟩
def code_writer_both_q : Pat S := ⟨[.p 0 0 0, y2], [z2]⟩
noncomputable def code_writer_both_C (F : Fam_code_writer_expr) : Ct S := ⟨101, code_writer_both_q, fun R k a b c d e g h i j => F.code_writer_both R a b c d e g h i j (oK ⟨.tp [], [z3], [.rw .ins .own]⟩ k g h i j)⟩
structure Fam_code_writer_expr_ok (F : Fam_code_writer_expr) : Prop where
  code_writer_expr : (code_writer_expr_C F).ok E0
  code_writer_both : (code_writer_both_C F).ok E0

noncomputable def code_writer_expr_l1_b (F : Fam_code_writer_expr) {R : Type} (N : Nat) (v_35 : List Expr) (v_36 : Int) (w_38 w_39 w_40 : List (List UInt8)) (w_41 : List Node) (e_43 e_44 : Int) (e_45 : List UInt8) (e_46 : List Expr) (e_47 : Int) (kp0 : (List Ins) → Option R) (rec : Int → (List Ins) → Option R) (v_37 : Int) (o_42 : List Ins) : Option R :=
  if (decide (v_37 < v_36)) = true then
    ((at? v_35 v_37).bind fun e48 =>
  code_writer_expr_2 N e48.Kind e48.N e48.Name e48.Kids e48.At w_38 w_39 w_40 w_41 o_42 (fun (r49 : List Ins) =>
  rec (IntKind.wrap .i64 (v_37 + 1)) r49) (rec (IntKind.wrap .i64 (v_37 + 1)) o_42))
  else
    (kp0 o_42)
noncomputable def code_writer_expr_l1 (F : Fam_code_writer_expr) {R : Type} (N : Nat) (v_35 : List Expr) (v_36 : Int) (w_38 w_39 w_40 : List (List UInt8)) (w_41 : List Node) (e_43 e_44 : Int) (e_45 : List UInt8) (e_46 : List Expr) (e_47 : Int) (kp0 : (List Ins) → Option R) : Nat → Int → (List Ins) → Option R
  | 0 => fun _ _ => none
  | n + 1 => fun v_37 o_42 => code_writer_expr_l1_b F N v_35 v_36 w_38 w_39 w_40 w_41 e_43 e_44 e_45 e_46 e_47 kp0 (code_writer_expr_l1 F N v_35 v_36 w_38 w_39 w_40 w_41 e_43 e_44 e_45 e_46 e_47 kp0 n) v_37 o_42
noncomputable def code_writer_expr_c18 (F : Fam_code_writer_expr) {R : Type} (N : Nat) (v_10 : Bool) (w_11 w_12 w_13 : List (List UInt8)) (w_14 : List Node) (e_15 e_16 : Int) (e_17 : List UInt8) (e_18 : List Expr) (e_19 : Int) (kp0 : (List Ins) → Option R) (kp1 : Option R) : Option R :=
  if v_10 = true then
    (if (((e_18.length : Nat) : Int) == 2) = true then
      (F.code_writer_both _ e_15 e_16 e_17 e_18 e_19 w_11 w_12 w_13 w_14 (fun (r20 : List Ins) =>
      kp0 r20))
    else
      (kp1 ))
  else
    (code_writer_expr_l1 F N e_18 ((e_18.length : Nat) : Int) w_11 w_12 w_13 w_14 e_15 e_16 e_17 e_18 e_19 (fun (y50 : List Ins) =>
    code_op N e_15 (fun (r51 : Int) =>
    code_writer_put_2 N r51 0 0 [] w_11 w_12 w_13 w_14 y50 (fun (r52 : Int) (r53 : List Ins) =>
    kp0 r53))) N 0 ([] : List Ins))
noncomputable def code_writer_expr_d (F : Fam_code_writer_expr) {R : Type} (N : Nat) (Kind N_ : Int) (Name : List UInt8) (Kids : List Expr) (At : Int) (Vars Ports Timers : List (List UInt8)) (Nodes : List Node) (k0 : (List Ins) → Option R) : Option R :=
  if (Kind == 1) = true then
    (code_writer_push N N_ Vars Ports Timers Nodes (fun (r1 : List Ins) =>
    k0 r1))
  else
    (if (Kind == 2) = true then
      (slices_Index_string N Vars Name (fun (r2 : Int) =>
      code_writer_put N 2 r2 0 [] Vars Ports Timers Nodes (fun (r3 : Int) (r4 : List Ins) =>
      k0 r4)))
    else
      (if (Kind == 3) = true then
        (code_writer_put N 3 0 0 [] Vars Ports Timers Nodes (fun (r5 : Int) (r6 : List Ins) =>
        k0 r6))
      else
        (if (Kind == 4) = true then
          (flat_Find N Nodes Name (fun (r7 : Int) =>
          code_writer_put N 4 r7 0 [] Vars Ports Timers Nodes (fun (r8 : Int) (r9 : List Ins) =>
          k0 r9)))
        else
          (if (Kind == 18) = true then
            (code_writer_expr_c18 F N (Kind == 18) Vars Ports Timers Nodes Kind N_ Name Kids At (fun (y54 : List Ins) =>
            k0 y54)
              (k0 ([] : List Ins)))
          else
            (code_writer_expr_c18 F N (Kind == 19) Vars Ports Timers Nodes Kind N_ Name Kids At (fun (y55 : List Ins) =>
            k0 y55)
              (k0 ([] : List Ins)))))))
noncomputable def code_writer_expr_D (F : Fam_code_writer_expr) (hF : Fam_code_writer_expr_ok F) (N : Nat) : FD E0 := { f := 63, fn := Try.f63, q := code_writer_expr_q, loops := [{ cur := 1, live := [0, 3, 9, 10, 11], fix := [(⟨0, [4]⟩, .row .ins .own)], out := fun | .exit 1 => ([0, 3], []) | _ => ([], []), q := ⟨[.p 0 0 0, .p 2 0 0, .t .expr, .i .i64, .i .i64], [z3, .rw .ins .own, z0]⟩, G := fun R K n a b c d e g h i j l m o p => code_writer_expr_l1 F N a b d e g h j l m o p (fun q => pK ⟨[.p 0 0 0, .p 2 0 0], [z3, .rw .ins .own, z0]⟩ (K (.exit 1)) d e g h q j l m o p) n c i, B := fun R K rec a b c d e g h i j l m o p => code_writer_expr_l1_b F N a b d e g h j l m o p (fun q => pK ⟨[.p 0 0 0, .p 2 0 0], [z3, .rw .ins .own, z0]⟩ (K (.exit 1)) d e g h q j l m o p) (fun c i => rec a b c d e g h i j l m o p) c i }], cuts := [{ key := 18, live := [0, 3, 62], out := fun | .normal => ([0], []) | _ => ([], []), q := ⟨[.p 0 0 0, .p 1 0 0, .b], [z2, z0]⟩, G := fun R K a b c d e g h i j l => code_writer_expr_c18 F N a b c d e g h i j l (pK ⟨[.p 0 0 0], [z3, .rw .ins .own]⟩ (K .normal) b c d e) (pK ⟨[.p 0 0 0], [z2]⟩ (K .normal) b c d e) }], g := [⟨code_writer_expr_C F, hF.code_writer_expr⟩, code_writer_expr_2_S N, slices_Index_string_S N, code_writer_push_S N, code_writer_put_S N, code_writer_put_2_S N, flat_Find_S N, ⟨code_writer_both_C F, hF.code_writer_both⟩, code_op_S N], exit := [(⟨0, [4]⟩, .fresh .ins .own)] }
theorem code_writer_expr_okF (F : Fam_code_writer_expr) (hF : Fam_code_writer_expr_ok F) (N : Nat) : Ct.ok E0 ⟨(code_writer_expr_D F hF N).f, (code_writer_expr_D F hF N).q, fun R k a b c d e g h i j => code_writer_expr_d F N a b c d e g h i j (oK ⟨.tp [], [z3], [.rw .ins .own]⟩ k g h i j)⟩ := FD.ct e0 (code_writer_expr_D F hF N) N (fun R k a b c d e g h i j => code_writer_expr_d F N a b c d e g h i j (oK ⟨.tp [], [z3], [.rw .ins .own]⟩ k g h i j))

noncomputable def code_writer_both_c7 (F : Fam_code_writer_expr) {R : Type} (N : Nat) (first_16 second_17 : Int) (w_18 w_19 w_20 : List (List UInt8)) (w_21 : List Node) (o_22 : List Ins) (kp0 : (List Ins) → Option R) : Option R :=
  code_writer_put_2 N 23 0 0 [] w_18 w_19 w_20 w_21 o_22 (fun (r23 : Int) (r24 : List Ins) =>
  code_writer_here N first_16 w_18 w_19 w_20 w_21 r24 (fun (r25 : List Ins) =>
  code_writer_here N second_17 w_18 w_19 w_20 w_21 r25 (fun (r26 : List Ins) =>
  code_writer_push_2 N 0 w_18 w_19 w_20 w_21 r26 (fun (r27 : List Ins) =>
  code_writer_here N r23 w_18 w_19 w_20 w_21 r27 (fun (r28 : List Ins) =>
  kp0 r28)))))
noncomputable def code_writer_both_c5 (F : Fam_code_writer_expr) {R : Type} (N : Nat) (first_7 : Int) (w_8 w_9 w_10 : List (List UInt8)) (w_11 : List Node) (o_12 : List Ins) (kp0 : (List Ins) → Option R) : Option R :=
  code_writer_put_2 N 24 0 0 [] w_8 w_9 w_10 w_11 o_12 (fun (r13 : Int) (r14 : List Ins) =>
  code_writer_push_2 N 1 w_8 w_9 w_10 w_11 r14 (fun (r15 : List Ins) =>
  code_writer_both_c7 F N first_7 r13 w_8 w_9 w_10 w_11 r15 (fun (y29 : List Ins) =>
  kp0 y29)))
noncomputable def code_writer_both_c17 (F : Fam_code_writer_expr) {R : Type} (N : Nat) (jump_57 second_58 : Int) (w_59 w_60 w_61 : List (List UInt8)) (w_62 : List Node) (o_63 : List Ins) (kp0 : (List Ins) → Option R) : Option R :=
  code_writer_push_2 N 1 w_59 w_60 w_61 w_62 o_63 (fun (r64 : List Ins) =>
  code_writer_put_2 N 23 0 0 [] w_59 w_60 w_61 w_62 r64 (fun (r65 : Int) (r66 : List Ins) =>
  code_writer_here N second_58 w_59 w_60 w_61 w_62 r66 (fun (r67 : List Ins) =>
  code_writer_push_2 N 0 w_59 w_60 w_61 w_62 r67 (fun (r68 : List Ins) =>
  code_writer_here N jump_57 w_59 w_60 w_61 w_62 r68 (fun (r69 : List Ins) =>
  code_writer_here N r65 w_59 w_60 w_61 w_62 r69 (fun (r70 : List Ins) =>
  kp0 r70))))))
noncomputable def code_writer_both_c16 (F : Fam_code_writer_expr) {R : Type} (N : Nat) (jump_49 : Int) (w_50 w_51 w_52 : List (List UInt8)) (w_53 : List Node) (o_54 : List Ins) (kp0 : (List Ins) → Option R) : Option R :=
  code_writer_put_2 N 24 0 0 [] w_50 w_51 w_52 w_53 o_54 (fun (r55 : Int) (r56 : List Ins) =>
  code_writer_both_c17 F N jump_49 r55 w_50 w_51 w_52 w_53 r56 (fun (y71 : List Ins) =>
  kp0 y71))
noncomputable def code_writer_both_c12 (F : Fam_code_writer_expr) {R : Type} (N : Nat) (first_32 : Int) (w_33 w_34 w_35 : List (List UInt8)) (w_36 : List Node) (o_37 : List Ins) (e_38 e_39 : Int) (e_40 : List UInt8) (e_41 : List Expr) (e_42 : Int) (kp0 : (List Ins) → Option R) : Option R :=
  code_writer_push_2 N 1 w_33 w_34 w_35 w_36 o_37 (fun (r43 : List Ins) =>
  code_writer_put_2 N 23 0 0 [] w_33 w_34 w_35 w_36 r43 (fun (r44 : Int) (r45 : List Ins) =>
  code_writer_here N first_32 w_33 w_34 w_35 w_36 r45 (fun (r46 : List Ins) =>
  (at? e_41 1).bind fun e47 =>
  code_writer_expr_2 N e47.Kind e47.N e47.Name e47.Kids e47.At w_33 w_34 w_35 w_36 r46 (fun (r48 : List Ins) =>
  code_writer_both_c16 F N r44 w_33 w_34 w_35 w_36 r48 (fun (y72 : List Ins) =>
  kp0 y72)) (code_writer_both_c16 F N r44 w_33 w_34 w_35 w_36 r46 (fun (y73 : List Ins) =>
  kp0 y73)))))
noncomputable def code_writer_both_d (F : Fam_code_writer_expr) {R : Type} (N : Nat) (Kind N_ : Int) (Name : List UInt8) (Kids : List Expr) (At : Int) (Vars Ports Timers : List (List UInt8)) (Nodes : List Node) (k0 : (List Ins) → Option R) : Option R :=
  (at? Kids 0).bind fun e1 =>
  F.code_writer_expr _ e1.Kind e1.N e1.Name e1.Kids e1.At Vars Ports Timers Nodes (fun (r2 : List Ins) =>
  code_writer_put_2 N 24 0 0 [] Vars Ports Timers Nodes r2 (fun (r3 : Int) (r4 : List Ins) =>
  if (Kind == 18) = true then
    ((at? Kids 1).bind fun e5 =>
    code_writer_expr_2 N e5.Kind e5.N e5.Name e5.Kids e5.At Vars Ports Timers Nodes r4 (fun (r6 : List Ins) =>
    code_writer_both_c5 F N r3 Vars Ports Timers Nodes r6 (fun (y30 : List Ins) =>
    k0 y30)) (code_writer_both_c5 F N r3 Vars Ports Timers Nodes r4 (fun (y31 : List Ins) =>
    k0 y31)))
  else
    (code_writer_both_c12 F N r3 Vars Ports Timers Nodes r4 Kind N_ Name Kids At (fun (y74 : List Ins) =>
    k0 y74))))
noncomputable def code_writer_both_D (F : Fam_code_writer_expr) (hF : Fam_code_writer_expr_ok F) (N : Nat) : FD E0 := { f := 101, fn := Try.f101, q := code_writer_both_q, cuts := [{ key := 7, live := [0, 4, 5], out := fun | .ret => ([], []) | _ => ([], []), q := ⟨[.p 0 0 0, .i .i64, .i .i64], [z3, .rw .ins .own]⟩, G := fun R K a b c d e g h => code_writer_both_c7 F N a b c d e g h (pK ⟨[], [z3, .rw .ins .own]⟩ (K .ret) c d e g) }, { key := 5, live := [0, 4], out := fun | .ret => ([], []) | _ => ([], []), q := ⟨[.p 0 0 0, .i .i64], [z3, .rw .ins .own]⟩, G := fun R K a b c d e g => code_writer_both_c5 F N a b c d e g (pK ⟨[], [z3, .rw .ins .own]⟩ (K .ret) b c d e) }, { key := 17, live := [0, 7, 8], out := fun | .normal => ([], []) | _ => ([], []), q := ⟨[.p 0 0 0, .i .i64, .i .i64], [z3, .rw .ins .own]⟩, G := fun R K a b c d e g h => code_writer_both_c17 F N a b c d e g h (pK ⟨[], [z3, .rw .ins .own]⟩ (K .normal) c d e g) }, { key := 16, live := [0, 7], out := fun | .normal => ([], []) | _ => ([], []), q := ⟨[.p 0 0 0, .i .i64], [z3, .rw .ins .own]⟩, G := fun R K a b c d e g => code_writer_both_c16 F N a b c d e g (pK ⟨[], [z3, .rw .ins .own]⟩ (K .normal) b c d e) }, { key := 12, live := [0, 3, 4], out := fun | .normal => ([], []) | _ => ([], []), q := ⟨[.p 0 0 0, .p 2 0 0, .i .i64], [z3, .rw .ins .own, z0]⟩, G := fun R K a b c d e g h i j l m => code_writer_both_c12 F N a b c d e g h i j l m (pK ⟨[], [z3, .rw .ins .own]⟩ (K .normal) b c d e) }], g := [⟨code_writer_expr_C F, hF.code_writer_expr⟩, code_writer_expr_2_S N, code_writer_push_2_S N, code_writer_put_2_S N, code_writer_here_S N] }
theorem code_writer_both_okF (F : Fam_code_writer_expr) (hF : Fam_code_writer_expr_ok F) (N : Nat) : Ct.ok E0 ⟨(code_writer_both_D F hF N).f, (code_writer_both_D F hF N).q, fun R k a b c d e g h i j => code_writer_both_d F N a b c d e g h i j (oK ⟨.tp [], [z3], [.rw .ins .own]⟩ k g h i j)⟩ := FD.ct e0 (code_writer_both_D F hF N) N (fun R k a b c d e g h i j => code_writer_both_d F N a b c d e g h i j (oK ⟨.tp [], [z3], [.rw .ins .own]⟩ k g h i j))

noncomputable def Fam_code_writer_expr_next (F : Fam_code_writer_expr) (N : Nat) : Fam_code_writer_expr where
  code_writer_expr := fun R Kind N_ Name Kids At Vars Ports Timers Nodes k0 => code_writer_expr_d F N Kind N_ Name Kids At Vars Ports Timers Nodes k0
  code_writer_both := fun R Kind N_ Name Kids At Vars Ports Timers Nodes k0 => code_writer_both_d F N Kind N_ Name Kids At Vars Ports Timers Nodes k0
noncomputable def Fam_code_writer_expr_at (N : Nat) : Nat → Fam_code_writer_expr
  | 0 => { code_writer_expr := fun _ _ _ _ _ _ _ _ _ _ _ => none, code_writer_both := fun _ _ _ _ _ _ _ _ _ _ _ => none }
  | d + 1 => Fam_code_writer_expr_next (Fam_code_writer_expr_at N d) N
theorem Fam_code_writer_expr_at_ok (N : Nat) : ∀ d, Fam_code_writer_expr_ok (Fam_code_writer_expr_at N d)
  | 0 => { code_writer_expr := Ct.ok_none, code_writer_both := Ct.ok_none }
  | d + 1 => { code_writer_expr := code_writer_expr_okF _ (Fam_code_writer_expr_at_ok N d) N, code_writer_both := code_writer_both_okF _ (Fam_code_writer_expr_at_ok N d) N }
noncomputable def code_writer_expr {R : Type} (N : Nat) (Kind N_ : Int) (Name : List UInt8) (Kids : List Expr) (At : Int) (Vars Ports Timers : List (List UInt8)) (Nodes : List Node) (k0 : (List Ins) → Option R) : Option R := (Fam_code_writer_expr_at N N).code_writer_expr R Kind N_ Name Kids At Vars Ports Timers Nodes k0
noncomputable def code_writer_expr_S (N : Nat) : OC E0 := ⟨code_writer_expr_C (Fam_code_writer_expr_at N N), (Fam_code_writer_expr_at_ok N N).code_writer_expr⟩
noncomputable def code_writer_both {R : Type} (N : Nat) (Kind N_ : Int) (Name : List UInt8) (Kids : List Expr) (At : Int) (Vars Ports Timers : List (List UInt8)) (Nodes : List Node) (k0 : (List Ins) → Option R) : Option R := (Fam_code_writer_expr_at N N).code_writer_both R Kind N_ Name Kids At Vars Ports Timers Nodes k0
noncomputable def code_Guard {R : Type} (N : Nat) (Kind N_ : Int) (Name : List UInt8) (Kids : List Expr) (At : Int) (Vars Ports Timers : List (List UInt8)) (Nodes : List Node) (k0 : (List Ins) → Option R) : Option R :=
  code_writer_expr N Kind N_ Name Kids At Vars Ports Timers Nodes (fun (r1 : List Ins) =>
  k0 r1)
noncomputable def code_Guard_D (N : Nat) : FD E0 := { f := 41, fn := Try.f41, q := ⟨[y2, y1], []⟩, g := [code_writer_expr_S N], exit := [(⟨4, []⟩, .tree .ins)] }
noncomputable def code_Guard_S (N : Nat) : OC E0 := ⟨_, FD.ct e0 (code_Guard_D N) N (fun R k a b c d e g h i j => code_Guard N a b c d e g h i j (oK ⟨.t .ins, [], []⟩ k))⟩

def z5 : ShO S := .bx [.i .i64, .i .i64, .i .i64, .st]
noncomputable def code_Most_l2_b {R : Type} (N : Nat) (sum_24 at_26 : Int) (v_27 : List Ins) (v_28 v_29 i_32 i_33 i_34 : Int) (i_35 : List UInt8) (kp0 : Int → (List Int) → (List Int) → Option R) (rec : Int → (List Int) → (List Int) → Option R) (times_25 : Int) (ends_30 was_31 : List Int) : Option R :=
  (ifB (decide (((ends_30.length : Nat) : Int) > 0)) true (if (0 : Int) ≤ IntKind.wrap .i64 (((ends_30.length : Nat) : Int) - 1) ∧ IntKind.wrap .i64 (((ends_30.length : Nat) : Int) - 1) < (ends_30.length : Int) then (match ends_30[(IntKind.wrap .i64 (((ends_30.length : Nat) : Int) - 1)).toNat]? with
    | some e36 => (some (decide (e36 ≤ at_26)))
    | none => none) else none) (some false)).bind fun c37 =>
  if c37 = true then
    (if (0 : Int) ≤ IntKind.wrap .i64 (((was_31.length : Nat) : Int) - 1) ∧ IntKind.wrap .i64 (((was_31.length : Nat) : Int) - 1) < (was_31.length : Int) then (match was_31[(IntKind.wrap .i64 (((was_31.length : Nat) : Int) - 1)).toNat]? with
    | some e38 => (if (0 : Int) ≤ 0 ∧ 0 ≤ IntKind.wrap .i64 (((ends_30.length : Nat) : Int) - 1) ∧ IntKind.wrap .i64 (((ends_30.length : Nat) : Int) - 1) ≤ ((ends_30.length : Nat) : Int) then (if (0 : Int) ≤ 0 ∧ 0 ≤ IntKind.wrap .i64 (((was_31.length : Nat) : Int) - 1) ∧ IntKind.wrap .i64 (((was_31.length : Nat) : Int) - 1) ≤ ((was_31.length : Nat) : Int) then (rec e38 (ends_30.take ((IntKind.wrap .i64 (((ends_30.length : Nat) : Int) - 1)).toNat - (Int.toNat 0))) (was_31.take ((IntKind.wrap .i64 (((was_31.length : Nat) : Int) - 1)).toNat - (Int.toNat 0)))) else none) else none)
    | none => none) else none)
  else
    (kp0 times_25 ends_30 was_31)
noncomputable def code_Most_l2 {R : Type} (N : Nat) (sum_24 at_26 : Int) (v_27 : List Ins) (v_28 v_29 i_32 i_33 i_34 : Int) (i_35 : List UInt8) (kp0 : Int → (List Int) → (List Int) → Option R) : Nat → Int → (List Int) → (List Int) → Option R
  | 0 => fun _ _ _ => none
  | n + 1 => fun times_25 ends_30 was_31 => code_Most_l2_b N sum_24 at_26 v_27 v_28 v_29 i_32 i_33 i_34 i_35 kp0 (code_Most_l2 N sum_24 at_26 v_27 v_28 v_29 i_32 i_33 i_34 i_35 kp0 n) times_25 ends_30 was_31
noncomputable def code_Most_l0_b {R : Type} (N : Nat) (v_3 : List Ins) (v_4 : Int) (kp0 : Int → Option R) (rec : Int → Int → Int → (List Int) → (List Int) → Option R) (sum_1 times_2 v_5 : Int) (ends_6 was_7 : List Int) : Option R :=
  if (decide (v_5 < v_4)) = true then
    ((at? v_3 v_5).bind fun e8 =>
  code_Most_l2 N sum_1 v_5 v_3 v_4 v_5 e8.Op e8.A e8.N e8.S (fun (y39 : Int) (y40 : List Int) (y41 : List Int) =>
  if (e8.Op == 25) = true then
    (if y40.length + [e8.A].length ≤ maxRow then (if y41.length + [y39].length ≤ maxRow then (rec (IntKind.wrap .i64 (sum_1 + y39)) (IntKind.wrap .i64 (y39 * e8.N)) (IntKind.wrap .i64 (v_5 + 1)) (y40 ++ [e8.A]) (y41 ++ [y39])) else none) else none)
  else
    (rec (IntKind.wrap .i64 (sum_1 + y39)) y39 (IntKind.wrap .i64 (v_5 + 1)) y40 y41)) N times_2 ends_6 was_7)
  else
    (kp0 sum_1)
noncomputable def code_Most_l0 {R : Type} (N : Nat) (v_3 : List Ins) (v_4 : Int) (kp0 : Int → Option R) : Nat → Int → Int → Int → (List Int) → (List Int) → Option R
  | 0 => fun _ _ _ _ _ => none
  | n + 1 => fun sum_1 times_2 v_5 ends_6 was_7 => code_Most_l0_b N v_3 v_4 kp0 (code_Most_l0 N v_3 v_4 kp0 n) sum_1 times_2 v_5 ends_6 was_7
noncomputable def code_Most {R : Type} (N : Nat) (c : List Ins) (k0 : Int → Option R) : Option R :=
  code_Most_l0 N c ((c.length : Nat) : Int) (fun (y42 : Int) =>
  k0 y42) N 0 1 0 ([] : List Int) ([] : List Int)
noncomputable def code_Most_D (N : Nat) : FD E0 := { f := 26, fn := Try.f26, q := ⟨[.t .ins], []⟩, loops := [{ cur := 2, live := [3, 4, 5, 6, 7, 8, 9, 10, 11], fix := [(⟨5, []⟩, .fresh .int .own), (⟨6, []⟩, .fresh .i64 .own)], out := fun | .exit 2 => ([3, 4, 5, 6, 8, 9, 10, 11], []) | _ => ([], []), q := ⟨[.i .i64, .i .i64, .sw 0, .sw 1, .i .i64, .p 2 0 0, .t .ins, .i .i64, .i .i64], [.rw .int .own, .rw .i64 .own, z5]⟩, G := fun R K n a b c d e g h i j l m o => code_Most_l2 N a c d e g j l m o (fun p q s => pK ⟨[.i .i64, .i .i64, .sw 0, .sw 1, .p 2 0 0, .t .ins, .i .i64, .i .i64], [.rw .int .own, .rw .i64 .own, z5]⟩ (K (.exit 2)) a p d e g q s j l m o) n b h i, B := fun R K rec a b c d e g h i j l m o => code_Most_l2_b N a c d e g j l m o (fun p q s => pK ⟨[.i .i64, .i .i64, .sw 0, .sw 1, .p 2 0 0, .t .ins, .i .i64, .i .i64], [.rw .int .own, .rw .i64 .own, z5]⟩ (K (.exit 2)) a p d e g q s j l m o) (fun b h i => rec a b c d e g h i j l m o) b h i }, { cur := 0, live := [3, 4, 5, 6, 9, 10, 11], fix := [(⟨5, []⟩, .row .int .own), (⟨6, []⟩, .row .i64 .own)], out := fun | .exit 0 => ([3], []) | _ => ([], []), q := ⟨[.i .i64, .i .i64, .sw 0, .sw 1, .t .ins, .i .i64, .i .i64], [.rw .int .own, .rw .i64 .own]⟩, G := fun R K n a b c d e g h => code_Most_l0 N c d (pK ⟨[.i .i64], []⟩ (K (.exit 0))) n a b e g h, B := fun R K rec a b c d e g h => code_Most_l0_b N c d (pK ⟨[.i .i64], []⟩ (K (.exit 0))) (fun a b e g h => rec a b c d e g h) a b e g h }], mode := fun | 54 => .own | 55 => .own | 58 => .own | 59 => .own | _ => .app }
noncomputable def code_Most_S (N : Nat) : OC E0 := ⟨_, FD.ct e0 (code_Most_D N) N (fun R k a => code_Most N a (oK ⟨.i .i64, [], []⟩ k))⟩

noncomputable def r16_Times_l0_b {R : Type} (N : Nat) (c_2 : List Ins) (at_3 : Int) (kp0 : Int → Option R) (rec : Int → Int → Option R) (t_4 i_5 : Int) : Option R :=
  if (decide (i_5 < at_3)) = true then
    ((at? c_2 i_5).bind fun e6 =>
  (ifB (e6.Op == 25) true ((at? c_2 i_5).bind fun e7 =>
  some (decide (at_3 < e7.A))) (some false)).bind fun c8 =>
  if c8 = true then
    ((at? c_2 i_5).bind fun e9 =>
    rec (IntKind.wrap .i64 (t_4 * e9.N)) (IntKind.wrap .i64 (i_5 + 1)))
  else
    (rec t_4 (IntKind.wrap .i64 (i_5 + 1))))
  else
    (kp0 t_4)
noncomputable def r16_Times_l0 {R : Type} (N : Nat) (c_2 : List Ins) (at_3 : Int) (kp0 : Int → Option R) : Nat → Int → Int → Option R
  | 0 => fun _ _ => none
  | n + 1 => fun t_4 i_5 => r16_Times_l0_b N c_2 at_3 kp0 (r16_Times_l0 N c_2 at_3 kp0 n) t_4 i_5
noncomputable def r16_Times {R : Type} (N : Nat) (c : List Ins) (at_ : Int) (k0 : Int → Option R) : Option R :=
  (ifB (decide (at_ < 0)) false (some (decide (at_ ≥ ((c.length : Nat) : Int)))) (some true)).bind fun c1 =>
  if c1 = true then
    (k0 0)
  else
    (r16_Times_l0 N c at_ (fun (y10 : Int) =>
  k0 y10) N 1 0)
noncomputable def r16_Times_D (N : Nat) : FD E0 := { f := 60, fn := Try.f60, q := ⟨[.t .ins, .i .i64], []⟩, loops := [{ cur := 0, live := [0, 1, 5, 6], out := fun | .exit 0 => ([5], []) | _ => ([], []), q := ⟨[.t .ins, .i .i64, .i .i64, .i .i64], []⟩, G := fun R K n a b c d => r16_Times_l0 N a b (pK ⟨[.i .i64], []⟩ (K (.exit 0))) n c d, B := fun R K rec a b c d => r16_Times_l0_b N a b (pK ⟨[.i .i64], []⟩ (K (.exit 0))) (rec a b) c d }] }
noncomputable def r16_Times_S (N : Nat) : OC E0 := ⟨_, FD.ct e0 (r16_Times_D N) N (fun R k a b => r16_Times N a b (oK ⟨.i .i64, [], []⟩ k))⟩

noncomputable def r16_Most_l0_b {R : Type} (N : Nat) (c_1 : List Ins) (kp0 : Int → Option R) (rec : Int → Int → Option R) (n_2 i_3 : Int) : Option R :=
  if (decide (i_3 < ((c_1.length : Nat) : Int))) = true then
    (r16_Times N c_1 i_3 (fun (r4 : Int) =>
  rec (IntKind.wrap .i64 (n_2 + r4)) (IntKind.wrap .i64 (i_3 + 1))))
  else
    (kp0 n_2)
noncomputable def r16_Most_l0 {R : Type} (N : Nat) (c_1 : List Ins) (kp0 : Int → Option R) : Nat → Int → Int → Option R
  | 0 => fun _ _ => none
  | n + 1 => fun n_2 i_3 => r16_Most_l0_b N c_1 kp0 (r16_Most_l0 N c_1 kp0 n) n_2 i_3
noncomputable def r16_Most {R : Type} (N : Nat) (c : List Ins) (k0 : Int → Option R) : Option R :=
  r16_Most_l0 N c (fun (y5 : Int) =>
  k0 y5) N 0 0
noncomputable def r16_Most_D (N : Nat) : FD E0 := { f := 35, fn := Try.f35, q := ⟨[.t .ins], []⟩, loops := [{ cur := 0, live := [0, 3, 4], out := fun | .exit 0 => ([3], []) | _ => ([], []), q := ⟨[.t .ins, .i .i64, .i .i64], []⟩, G := fun R K n a b c => r16_Most_l0 N a (pK ⟨[.i .i64], []⟩ (K (.exit 0))) n b c, B := fun R K rec a b c => r16_Most_l0_b N a (pK ⟨[.i .i64], []⟩ (K (.exit 0))) (rec a) b c }], g := [r16_Times_S N] }
noncomputable def r16_Most_S (N : Nat) : OC E0 := ⟨_, FD.ct e0 (r16_Most_D N) N (fun R k a => r16_Most N a (oK ⟨.i .i64, [], []⟩ k))⟩

noncomputable def r37_Row_Next {R : Type} (N : Nat) (n_ : Int) (L : List Int) (At : Int) (k0 : Int → Int → Option R) : Option R :=
  if (decide (At ≥ ((L.length : Nat) : Int))) = true then
    (k0 0 At)
  else
    ((at? L (IntKind.wrap .i64 ((IntKind.wrap .i64 (At + 1)) - 1))).bind fun e1 =>
  r37_Place N e1 n_ (fun (r2 : Int) =>
  k0 r2 (IntKind.wrap .i64 (At + 1))))
noncomputable def r37_Row_Next_D (N : Nat) : FD E0 := { f := 22, fn := Try.f22, q := ⟨[.p 0 0 0, .i .i64], [.bx [.t .int, .i .i64]]⟩, g := [r37_Place_S N] }
noncomputable def r37_Row_Next_S (N : Nat) : OC E0 := ⟨_, FD.ct e0 (r37_Row_Next_D N) N (fun R k a b c => r37_Row_Next N a b c (fun d => oK ⟨.i .i64, [.bx [.t .int, .i .i64]], []⟩ k d b))⟩

noncomputable def r37_pick {R : Type} (N : Nat) (l : List (List UInt8)) (or_ : List UInt8) (L : List Int) (At : Int) (k0 : (List UInt8) → Int → Option R) : Option R :=
  if (((l.length : Nat) : Int) == 0) = true then
    (k0 or_ At)
  else
    (r37_Row_Next N ((l.length : Nat) : Int) L At (fun (r1 : Int) (r2 : Int) =>
  (at? l r1).bind fun e3 =>
  k0 e3 r2))
noncomputable def r37_pick_D (N : Nat) : FD E0 := { f := 23, fn := Try.f23, q := ⟨[.p 0 0 0, .t .str, .st], [.bx [.t .int, .i .i64]]⟩, g := [r37_Row_Next_S N] }
noncomputable def r37_pick_S (N : Nat) : OC E0 := ⟨_, FD.ct e0 (r37_pick_D N) N (fun R k a b c d => r37_pick N a b c d (fun e => oK ⟨.st, [.bx [.t .int, .i .i64]], []⟩ k e c))⟩

structure Fam_r37_Expr where
  r37_Expr : (R : Type) → (List (List UInt8)) → (List (List UInt8)) → (List (List UInt8)) → (List (List UInt8)) → Int → (List Int) → Int → (Int → Int → (List UInt8) → (List Expr) → Int → Int → Option R) → Option R

def r37_Expr_q : Pat S := ⟨[.p 0 0 0, y0, .i .i64], [.bx [.t .int, .i .i64]]⟩
noncomputable def r37_Expr_C (F : Fam_r37_Expr) : Ct S := ⟨15, r37_Expr_q, fun R k a b c d e g h => F.r37_Expr R a b c d e g h (fun i j l m o => oK ⟨y2, [.bx [.t .int, .i .i64]], []⟩ k i j l m o g)⟩
structure Fam_r37_Expr_ok (F : Fam_r37_Expr) : Prop where
  r37_Expr : (r37_Expr_C F).ok E0

def z6 : ShO S := .bx [.i .i64, .i .i64, .st, .ns, .i .i64]
def z7 : ShO S := .bx [.i .i64, .i .i64, .st, .sw 2, .i .i64]
def z8 : ShO S := .bx [.t .str, .t .str, .t .str, .t .str]
noncomputable def r37_Expr_c4 (F : Fam_r37_Expr) {R : Type} (N : Nat) (deep_4 k_5 : Int) (r_6 : List Int) (r_7 : Int) (s_8 s_9 s_10 s_11 : List (List UInt8)) (v_12 v_13 : Int) (v_14 : List UInt8) (v_15 : Int) (kp0 : Int → Int → Int → (List UInt8) → Int → Option R) (kp1 : Int → Int → Int → (List UInt8) → Int → (List Expr) → Option R) : Option R :=
  if (decide (k_5 < 2)) = true then
    (r37_Row_Next N 6 r_6 r_7 (fun (r16 : Int) (r17 : Int) =>
    (at? [0, 1, 2, 7, 1099511627776, 9223372036854775807] r16).bind fun e18 =>
    kp0 r17 1 e18 [] 0))
  else
    ((ifB (k_5 == 2) true (some (decide (((s_8.length : Nat) : Int) > 0))) (some false)).bind fun c19 =>
    if c19 = true then
      (r37_pick N s_8 [] r_6 r_7 (fun (r20 : List UInt8) (r21 : Int) =>
      kp0 r21 2 0 r20 0))
    else
      ((ifB (k_5 == 3) true (some (decide (((s_11.length : Nat) : Int) > 0))) (some false)).bind fun c22 =>
      if c22 = true then
        (r37_pick N s_11 [] r_6 r_7 (fun (r23 : List UInt8) (r24 : Int) =>
        kp0 r24 4 0 r23 0))
      else
        (if (decide (k_5 < 6)) = true then
          (kp0 r_7 3 0 [] 0)
        else
          (if (k_5 == 6) = true then
            (r37_Row_Next N 2 r_6 r_7 (fun (r25 : Int) (r26 : Int) =>
            F.r37_Expr _ s_8 s_9 s_10 s_11 (IntKind.wrap .i64 (deep_4 - 1)) r_6 r26 (fun (r27 : Int) (r28 : Int) (r29 : List UInt8) (r30 : List Expr) (r31 : Int) (r32 : Int) =>
            kp1 r32 (IntKind.wrap .i64 (5 + r25)) 0 [] 0 [(⟨r27, r28, r29, r30, r31⟩ : Expr)])))
          else
            (F.r37_Expr _ s_8 s_9 s_10 s_11 (IntKind.wrap .i64 (deep_4 - 1)) r_6 r_7 (fun (r33 : Int) (r34 : Int) (r35 : List UInt8) (r36 : List Expr) (r37 : Int) (r38 : Int) =>
  r37_Row_Next N 13 r_6 r38 (fun (r39 : Int) (r40 : Int) =>
  F.r37_Expr _ s_8 s_9 s_10 s_11 (IntKind.wrap .i64 (deep_4 - 1)) r_6 r40 (fun (r41 : Int) (r42 : Int) (r43 : List UInt8) (r44 : List Expr) (r45 : Int) (r46 : Int) =>
  kp1 r46 (IntKind.wrap .i64 (7 + r39)) 0 [] 0 [(⟨r33, r34, r35, r36, r37⟩ : Expr), (⟨r41, r42, r43, r44, r45⟩ : Expr)]))))))))
noncomputable def r37_Expr_d (F : Fam_r37_Expr) {R : Type} (N : Nat) (Vars Ports Timers States : List (List UInt8)) (deep : Int) (L : List Int) (At : Int) (k0 : Int → Int → (List UInt8) → (List Expr) → Int → Int → Option R) : Option R :=
  r37_Row_Next N 14 L At (fun (r1 : Int) (r2 : Int) =>
  (ifB (deep == 0) true (some (decide (r1 > 5))) (some false)).bind fun c3 =>
  if c3 = true then
    (r37_Expr_c4 F N deep (Int.tmod r1 6) L r2 Vars Ports Timers States 0 0 [] 0 (fun (y47 : Int) (y48 : Int) (y49 : Int) (y50 : List UInt8) (y51 : Int) =>
    k0 y48 y49 y50 ([] : List Expr) y51 y47)
      (fun (y52 : Int) (y53 : Int) (y54 : Int) (y55 : List UInt8) (y56 : Int) (y57 : List Expr) =>
    k0 y53 y54 y55 y57 y56 y52))
  else
    (r37_Expr_c4 F N deep r1 L r2 Vars Ports Timers States 0 0 [] 0 (fun (y58 : Int) (y59 : Int) (y60 : Int) (y61 : List UInt8) (y62 : Int) =>
    k0 y59 y60 y61 ([] : List Expr) y62 y58)
      (fun (y63 : Int) (y64 : Int) (y65 : Int) (y66 : List UInt8) (y67 : Int) (y68 : List Expr) =>
    k0 y64 y65 y66 y68 y67 y63)))
noncomputable def r37_Expr_D (F : Fam_r37_Expr) (hF : Fam_r37_Expr_ok F) (N : Nat) : FD E0 := { f := 15, fn := Try.f15, q := r37_Expr_q, cuts := [{ key := 4, live := [0, 2, 4, 6, 7], out := fun | .ret => ([6], []) | _ => ([], []), q := ⟨[.p 0 0 0, .i .i64, .p 1 0 0, .p 2 0 0, .i .i64], [.bx [.t .int, .i .i64], z8, z6]⟩, G := fun R K a b c d e g h i j l m o => r37_Expr_c4 F N a b c d e g h i j l m o (pK ⟨[.p 1 0 0], [.bx [.t .int, .i .i64], z6]⟩ (K .ret) c) (pK ⟨[.p 1 0 0], [.bx [.t .int, .i .i64], z7, .rw .expr .app]⟩ (K .ret) c) }], g := [⟨r37_Expr_C F, hF.r37_Expr⟩, r37_Row_Next_S N, r37_pick_S N], exit := [(⟨6, [3]⟩, .tree .expr)] }
theorem r37_Expr_okF (F : Fam_r37_Expr) (hF : Fam_r37_Expr_ok F) (N : Nat) : Ct.ok E0 ⟨(r37_Expr_D F hF N).f, (r37_Expr_D F hF N).q, fun R k a b c d e g h => r37_Expr_d F N a b c d e g h (fun i j l m o => oK ⟨y2, [.bx [.t .int, .i .i64]], []⟩ k i j l m o g)⟩ := FD.ct e0 (r37_Expr_D F hF N) N (fun R k a b c d e g h => r37_Expr_d F N a b c d e g h (fun i j l m o => oK ⟨y2, [.bx [.t .int, .i .i64]], []⟩ k i j l m o g))

noncomputable def Fam_r37_Expr_next (F : Fam_r37_Expr) (N : Nat) : Fam_r37_Expr where
  r37_Expr := fun R Vars Ports Timers States deep L At k0 => r37_Expr_d F N Vars Ports Timers States deep L At k0
noncomputable def Fam_r37_Expr_at (N : Nat) : Nat → Fam_r37_Expr
  | 0 => { r37_Expr := fun _ _ _ _ _ _ _ _ _ => none }
  | d + 1 => Fam_r37_Expr_next (Fam_r37_Expr_at N d) N
theorem Fam_r37_Expr_at_ok (N : Nat) : ∀ d, Fam_r37_Expr_ok (Fam_r37_Expr_at N d)
  | 0 => { r37_Expr := Ct.ok_none }
  | d + 1 => { r37_Expr := r37_Expr_okF _ (Fam_r37_Expr_at_ok N d) N }
noncomputable def r37_Expr {R : Type} (N : Nat) (Vars Ports Timers States : List (List UInt8)) (deep : Int) (L : List Int) (At : Int) (k0 : Int → Int → (List UInt8) → (List Expr) → Int → Int → Option R) : Option R := (Fam_r37_Expr_at N N).r37_Expr R Vars Ports Timers States deep L At k0
noncomputable def r37_Expr_S (N : Nat) : OC E0 := ⟨r37_Expr_C (Fam_r37_Expr_at N N), (Fam_r37_Expr_at_ok N N).r37_Expr⟩

def z9 : ShO S := .bx [.i .i64, .sw 1, .ns, .ns, .i .i64, .i .i64, .ns, .i .i64, .ns, .ns, .i .i64]
def z10 : ShO S := .bx [.i .i64, .sw 1, .ns, .ns, .i .i64, .i .i64, .ns, .i .i64, .sw 2, .ns, .i .i64]
noncomputable def r17_running_put {R : Type} (N : Nat) (n_ Value Cost Code arg at_ : Int) (Vars : List Int) (k0 : (List Int) → Option R) : Option R :=
  if ([] : List Int).length + ([] : List Int).length ≤ maxRow then (if (([] : List Int) ++ ([] : List Int)).length + [n_].length ≤ maxRow then (k0 ((([] : List Int) ++ ([] : List Int)) ++ [n_])) else none) else none
noncomputable def r17_running_put_D (N : Nat) : FD E0 := { f := 64, fn := Try.f64, q := ⟨[.p 0 0 0, .i .i64], [z9, .rw .i64 .own]⟩, mode := fun | 5 => .own | 10 => .own | 12 => .own | 13 => .own | _ => .app }
noncomputable def r17_running_put_S (N : Nat) : OC E0 := ⟨_, FD.ct e0 (r17_running_put_D N) N (fun R k a b c d e g h => r17_running_put N a b c d e g h (oK ⟨.tp [], [z10, .rw .i64 .own], [.rw .i64 .own]⟩ k b c d e g h))⟩

noncomputable def r3_Has_l0_b {R : Type} (N : Nat) (i_1 k_2 : Int) (kp0 : Option R) (rec : Option R)  : Option R :=
  if (decide (k_2 < 0)) = true then
    (none)
  else
    (kp0 )
noncomputable def r3_Has_l0 {R : Type} (N : Nat) (i_1 k_2 : Int) (kp0 : Option R) : Nat → Option R
  | 0 => none
  | n + 1 => r3_Has_l0_b N i_1 k_2 kp0 (r3_Has_l0 N i_1 k_2 kp0 n)
noncomputable def r3_Has {R : Type} (N : Nat) (i : Int) (k0 : Bool → Option R) : Option R :=
  r3_Has_l0 N i 0 (k0 false) N 
noncomputable def r3_Has_D (N : Nat) : FD E0 := { f := 66, fn := Try.f66, q := ⟨[.ns, .i .i64], []⟩, loops := [{ cur := 0, live := [0, 1, 5], out := fun | .exit 0 => ([], []) | _ => ([], []), q := ⟨[.ns, .i .i64, .i .i64], []⟩, G := fun R K n a b => r3_Has_l0 N a b (pK ⟨[], []⟩ (K (.exit 0))) n , B := fun R K rec a b => r3_Has_l0_b N a b (pK ⟨[], []⟩ (K (.exit 0))) (rec a b)  }] }
noncomputable def r3_Has_S (N : Nat) : OC E0 := ⟨_, FD.ct e0 (r3_Has_D N) N (fun R k a => r3_Has N a (oK ⟨.b, [], []⟩ k))⟩

noncomputable def r17_truth {R : Type} (N : Nat) (b : Bool) (k0 : Int → Option R) : Option R :=
  if b = true then
    (k0 1)
  else
    (k0 0)
noncomputable def r17_truth_D (N : Nat) : FD E0 := { f := 65, fn := Try.f65, q := ⟨[.b], []⟩ }
noncomputable def r17_truth_S (N : Nat) : OC E0 := ⟨_, FD.ct e0 (r17_truth_D N) N (fun R k a => r17_truth N a (oK ⟨.i .i64, [], []⟩ k))⟩

noncomputable def r17_running_take {R : Type} (N : Nat) (Value Cost Code arg at_ : Int) (Vars : List Int) (k0 : Int → Option R) : Option R :=
  k0 0
noncomputable def r17_running_take_D (N : Nat) : FD E0 := { f := 67, fn := Try.f67, q := ⟨[.p 0 0 0], [z9, .rw .i64 .own]⟩ }
noncomputable def r17_running_take_S (N : Nat) : OC E0 := ⟨_, FD.ctq e0 (r17_running_take_D N) N (fun R k a b c d e g => r17_running_take N a b c d e g (oQ ⟨.i .i64, [], []⟩ k))⟩

noncomputable def r1_Sub {R : Type} (N : Nat) (a b : Int) (k0 : Int → Int → Option R) : Option R :=
  (ifB (decide (b < 0)) true (some (decide (a > (IntKind.wrap .i64 (9223372036854775807 + b))))) (some false)).bind fun c1 =>
  (ifB c1 false ((ifB (decide (b > 0)) true (some (decide (a < (IntKind.wrap .i64 ((-9223372036854775808) + b))))) (some false)).bind fun c2 =>
  some c2) (some true)).bind fun c3 =>
  if c3 = true then
    (k0 0 2)
  else
    (k0 (IntKind.wrap .i64 (a - b)) 0)
noncomputable def r1_Sub_D (N : Nat) : FD E0 := { f := 103, fn := Try.f103, q := ⟨[.i .i64, .i .i64], []⟩ }
noncomputable def r1_Sub_S (N : Nat) : OC E0 := ⟨_, FD.ct e0 (r1_Sub_D N) N (fun R k a b => r1_Sub N a b (oK ⟨.tp [.i .i64, .i .i64], [], []⟩ k))⟩

noncomputable def r1_Neg {R : Type} (N : Nat) (a : Int) (k0 : Int → Int → Option R) : Option R :=
  r1_Sub N 0 a (fun (r1 : Int) (r2 : Int) =>
  k0 r1 r2)
noncomputable def r1_Neg_D (N : Nat) : FD E0 := { f := 68, fn := Try.f68, q := ⟨[.i .i64], []⟩, g := [r1_Sub_S N] }
noncomputable def r1_Neg_S (N : Nat) : OC E0 := ⟨_, FD.ct e0 (r1_Neg_D N) N (fun R k a => r1_Neg N a (oK ⟨.tp [.i .i64, .i .i64], [], []⟩ k))⟩

noncomputable def r1_Mul {R : Type} (N : Nat) (a b : Int) (k0 : Int → Int → Option R) : Option R :=
  (ifB (a == 0) false (some (b == 0)) (some true)).bind fun c1 =>
  if c1 = true then
    (k0 0 0)
  else
    ((ifB (a == (-1)) true (some (b == (-9223372036854775808))) (some false)).bind fun c2 =>
    (ifB c2 false ((ifB (b == (-1)) true (some (a == (-9223372036854775808))) (some false)).bind fun c3 =>
    some c3) (some true)).bind fun c4 =>
    if c4 = true then
      (k0 0 2)
    else
      (if b = 0 then none else (if ((IntKind.wrap .i64 (Int.tdiv (IntKind.wrap .i64 (a * b)) b)) != a) = true then
          (k0 0 2)
        else
          (k0 (IntKind.wrap .i64 (a * b)) 0))))
noncomputable def r1_Mul_D (N : Nat) : FD E0 := { f := 104, fn := Try.f104, q := ⟨[.i .i64, .i .i64], []⟩ }
noncomputable def r1_Mul_S (N : Nat) : OC E0 := ⟨_, FD.ct e0 (r1_Mul_D N) N (fun R k a b => r1_Mul N a b (oK ⟨.tp [.i .i64, .i .i64], [], []⟩ k))⟩

noncomputable def r1_Div {R : Type} (N : Nat) (a b : Int) (k0 : Int → Int → Option R) : Option R :=
  if (b == 0) = true then
    (k0 0 3)
  else
    ((ifB (b == (-1)) true (some (a == (-9223372036854775808))) (some false)).bind fun c1 =>
    if c1 = true then
      (k0 0 2)
    else
      (if b = 0 then none else (k0 (IntKind.wrap .i64 (Int.tdiv a b)) 0)))
noncomputable def r1_Div_D (N : Nat) : FD E0 := { f := 105, fn := Try.f105, q := ⟨[.i .i64, .i .i64], []⟩ }
noncomputable def r1_Div_S (N : Nat) : OC E0 := ⟨_, FD.ct e0 (r1_Div_D N) N (fun R k a b => r1_Div N a b (oK ⟨.tp [.i .i64, .i .i64], [], []⟩ k))⟩

noncomputable def r1_Mod {R : Type} (N : Nat) (a b : Int) (k0 : Int → Int → Option R) : Option R :=
  if (b == 0) = true then
    (k0 0 3)
  else
    (if (b == (-1)) = true then
      (k0 0 0)
    else
      (if b = 0 then none else (k0 (Int.tmod a b) 0)))
noncomputable def r1_Mod_D (N : Nat) : FD E0 := { f := 106, fn := Try.f106, q := ⟨[.i .i64, .i .i64], []⟩ }
noncomputable def r1_Mod_S (N : Nat) : OC E0 := ⟨_, FD.ct e0 (r1_Mod_D N) N (fun R k a b => r1_Mod N a b (oK ⟨.tp [.i .i64, .i .i64], [], []⟩ k))⟩

noncomputable def r1_Add {R : Type} (N : Nat) (a b : Int) (k0 : Int → Int → Option R) : Option R :=
  (ifB (decide (b > 0)) true (some (decide (a > (IntKind.wrap .i64 (9223372036854775807 - b))))) (some false)).bind fun c1 =>
  (ifB c1 false ((ifB (decide (b < 0)) true (some (decide (a < (IntKind.wrap .i64 ((-9223372036854775808) - b))))) (some false)).bind fun c2 =>
  some c2) (some true)).bind fun c3 =>
  if c3 = true then
    (k0 0 2)
  else
    (k0 (IntKind.wrap .i64 (a + b)) 0)
noncomputable def r1_Add_D (N : Nat) : FD E0 := { f := 107, fn := Try.f107, q := ⟨[.i .i64, .i .i64], []⟩ }
noncomputable def r1_Add_S (N : Nat) : OC E0 := ⟨_, FD.ct e0 (r1_Add_D N) N (fun R k a b => r1_Add N a b (oK ⟨.tp [.i .i64, .i .i64], [], []⟩ k))⟩

noncomputable def r17_two {R : Type} (N : Nat) (op a b : Int) (k0 : Int → Int → Option R) : Option R :=
  if (op == 7) = true then
    (r1_Mul N a b (fun (r1 : Int) (r2 : Int) =>
    k0 r1 r2))
  else
    (if (op == 8) = true then
      (r1_Div N a b (fun (r3 : Int) (r4 : Int) =>
      k0 r3 r4))
    else
      (if (op == 9) = true then
        (r1_Mod N a b (fun (r5 : Int) (r6 : Int) =>
        k0 r5 r6))
      else
        (if (op == 10) = true then
          (r1_Add N a b (fun (r7 : Int) (r8 : Int) =>
          k0 r7 r8))
        else
          (if (op == 11) = true then
            (r1_Sub N a b (fun (r9 : Int) (r10 : Int) =>
            k0 r9 r10))
          else
            (if (op == 12) = true then
              (r17_truth N (decide (a < b)) (fun (r11 : Int) =>
              k0 r11 0))
            else
              (if (op == 13) = true then
                (r17_truth N (decide (a ≤ b)) (fun (r12 : Int) =>
                k0 r12 0))
              else
                (if (op == 14) = true then
                  (r17_truth N (decide (a > b)) (fun (r13 : Int) =>
                  k0 r13 0))
                else
                  (if (op == 15) = true then
                    (r17_truth N (decide (a ≥ b)) (fun (r14 : Int) =>
                    k0 r14 0))
                  else
                    (if (op == 16) = true then
                      (r17_truth N (a == b) (fun (r15 : Int) =>
                      k0 r15 0))
                    else
                      (r17_truth N (a != b) (fun (r16 : Int) =>
  k0 r16 0)))))))))))
noncomputable def r17_two_D (N : Nat) : FD E0 := { f := 69, fn := Try.f69, q := ⟨[.i .i64, .i .i64, .i .i64], []⟩, g := [r17_truth_S N, r1_Sub_S N, r1_Mul_S N, r1_Div_S N, r1_Mod_S N, r1_Add_S N] }
noncomputable def r17_two_S (N : Nat) : OC E0 := ⟨_, FD.ct e0 (r17_two_D N) N (fun R k a b c => r17_two N a b c (oK ⟨.tp [.i .i64, .i .i64], [], []⟩ k))⟩

end Ef

