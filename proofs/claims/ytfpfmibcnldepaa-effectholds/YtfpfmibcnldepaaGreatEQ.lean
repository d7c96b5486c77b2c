/- EQ: a part of the proof of EffectHolds: lemmas on the evaluator and on the functions that the law reaches. -/
import Derived.Test.YtfpfmibcnldepaaGreatEP
set_option maxRecDepth 100000
set_option linter.unusedVariables false
set_option linter.unusedSimpArgs false
namespace Ef
open Go TE Go.Proofs
def z32 : ShO S := .bx [.sw 1, .sw 2, .m 3, .t .str, .t .str, .t .str, .t .node, .b]
def z33 : ShO S := .mx true [.int .i64, .int .i64, .str] false .int
noncomputable def effect_rows_put {R : Type} (N : Nat) (row : Int) (Vars Ports Timers : List (List UInt8)) (Nodes : List Node) (many : Bool) (l : List Next) (long : List Int) (known_L : List (List Sc × Int × Nat)) (known_cl : Nat) (s_L : List (List Sc × Bool × Nat)) (s_cl : Nat) (k0 : Bool → (List (List Sc × Bool × Nat)) → Nat → Option R) : Option R :=
 (ifB many false (some (decide ((((updM [.int .i64 row] true s_cl s_L).length : Nat) : Int) > 64))) (some true)).bind fun c1 =>
 (ifB c1 false (if (0 : Int) ≤ row ∧ row < (long.length : Int) then (match long[row.toNat]? with
  | some e2 => (some (decide (e2 > 64)))
  | none => none) else none) (some true)).bind fun c3 =>
 k0 c3 (updM [.int .i64 row] true s_cl s_L) (if (findM [.int .i64 row] s_L).isSome = true then s_cl else s_cl + 1)
noncomputable def effect_rows_put_D (N : Nat) : FD E0 := { f := 37, fn := Tryz.f37, q := ⟨[.p 0 0 0, .m 4, .i .i64], [z32, .rw .next .app, .rw .int .app, z33, .mx false [.int .i64] false .bool]⟩ }
noncomputable def effect_rows_put_S (N : Nat) : OC E0 := ⟨_, FD.ct e0 (effect_rows_put_D N) N (fun R k a b c d e g h i j l m o => effect_rows_put N a b c d e g h i j l m o (fun p => oK ⟨.tp [], [z32, .rw .next .app, .rw .int .app, z33, .mx false [.int .i64] false .bool], []⟩ k b c d e p h i j l))⟩
noncomputable def effect_rows_fail_l0_b {R : Type} (N : Nat) (r_1 r_2 r_3 : List (List UInt8)) (r_4 : List Node) (o_6 : List Next) (o_7 : List Int) (o_8 : List (List Sc × Int × Nat)) (o_9 : Nat) (b_10 : Bool) (o_11 : List (List Sc × Bool × Nat)) (o_12 v_15 : Nat) (kp0 : Bool → (List (List Sc × Bool × Nat)) → Nat → Option R) (rec : Bool → (List (List Sc × Bool × Nat)) → Nat → (List Nat) → Nat → Option R) (r_5 : Bool) (o_13 : List (List Sc × Bool × Nat)) (o_14 : Nat) (v_16 : List Nat) (v_17 : Nat) : Option R :=
 nextC v_15 v_16 v_17 o_11 (kp0 r_5 o_13 o_14) fun n18 =>
 if o_12 = o_12 then (match findB n18.2.2 o_11 with
 | some en19 => (effect_rows_put N (scI en19.1) r_1 r_2 r_3 r_4 r_5 o_6 o_7 o_8 o_9 o_13 o_14 (fun r20 r21 r22 =>
 rec r20 r21 r22 (n18.2.2 :: v_16) o_12))
 | none => none) else none
noncomputable def effect_rows_fail_l0 {R : Type} (N : Nat) (r_1 r_2 r_3 : List (List UInt8)) (r_4 : List Node) (o_6 : List Next) (o_7 : List Int) (o_8 : List (List Sc × Int × Nat)) (o_9 : Nat) (b_10 : Bool) (o_11 : List (List Sc × Bool × Nat)) (o_12 v_15 : Nat) (kp0 : Bool → (List (List Sc × Bool × Nat)) → Nat → Option R) : Nat → Bool → (List (List Sc × Bool × Nat)) → Nat → (List Nat) → Nat → Option R
 | 0 => fun _ _ _ _ _ => none
 | n + 1 => fun r_5 o_13 o_14 v_16 v_17 => effect_rows_fail_l0_b N r_1 r_2 r_3 r_4 o_6 o_7 o_8 o_9 b_10 o_11 o_12 v_15 kp0 (effect_rows_fail_l0 N r_1 r_2 r_3 r_4 o_6 o_7 o_8 o_9 b_10 o_11 o_12 v_15 kp0 n) r_5 o_13 o_14 v_16 v_17
noncomputable def effect_rows_fail {R : Type} (N : Nat) (Vars Ports Timers : List (List UInt8)) (Nodes : List Node) (many : Bool) (l : List Next) (long : List Int) (known_L : List (List Sc × Int × Nat)) (known_cl : Nat) (both : Bool) (t_L : List (List Sc × Bool × Nat)) (t_cl : Nat) (f_L : List (List Sc × Bool × Nat)) (f_cl : Nat) (k0 : Bool → Bool → (List (List Sc × Bool × Nat)) → Nat → Option R) : Option R :=
 if both = true then
  (k0 many both f_L f_cl)
 else
  (effect_rows_fail_l0 N Vars Ports Timers Nodes l long known_L known_cl both t_L t_cl t_cl (fun y23 y24 y25 =>
 k0 y23 true y24 y25) N many f_L f_cl [] t_cl)
noncomputable def effect_rows_fail_D (N : Nat) : FD E0 := { f := 56, fn := Tryz.f56, q := ⟨[.p 0 0 0, .p 4 0 0], [z32, .rw .next .app, .rw .int .app, z33, .bx [.m 5, .m 6, .b], .mx false [.int .i64] false .bool, .mx false [.int .i64] false .bool]⟩, loops := [{ cur := 0, live := [0, 1, 13], out := fun | .exit 0 => ([1], []) | _ => ([], []), q := ⟨[.p 0 0 0, .p 4 0 0, .p 7 0 0], [z32, .rw .next .app, .rw .int .app, z33, .bx [.m 5, .m 6, .b], .mx false [.int .i64] false .bool, .mx false [.int .i64] false .bool, .it 5]⟩, G := fun R K n a b c d e g h i j l m o p q s t u => effect_rows_fail_l0 N a b c d g h i j l m o s (fun v => pK ⟨[.p 4 0 0], [z32, .rw .next .app, .rw .int .app, z33, .bx [.m 5, .m 6, .b], .mx false [.int .i64] false .bool, .mx false [.int .i64] false .bool]⟩ (K (.exit 0)) a b c d v g h i j l m o) n e p q t u, B := fun R K rec a b c d e g h i j l m o p q s t u => effect_rows_fail_l0_b N a b c d g h i j l m o s (fun v => pK ⟨[.p 4 0 0], [z32, .rw .next .app, .rw .int .app, z33, .bx [.m 5, .m 6, .b], .mx false [.int .i64] false .bool, .mx false [.int .i64] false .bool]⟩ (K (.exit 0)) a b c d v g h i j l m o) (fun e p q t u => rec a b c d e g h i j l m o p q s t u) e p q t u }], g := [effect_rows_put_S N], nd := true }
noncomputable def effect_rows_fail_S (N : Nat) : OCM E0 := ⟨_, FD.ctm e0 (effect_rows_fail_D N) N (fun R k a b c d e g h i j l m o p q => effect_rows_fail N a b c d e g h i j l m o p q (fun s t => oK ⟨.tp [], [z32, .rw .next .app, .rw .int .app, z33, .bx [.m 5, .m 6, .b], .mx false [.int .i64] false .bool, .mx false [.int .i64] false .bool], []⟩ k a b c d s g h i j t m o))⟩
def z34 : ShO S := .bx [.sw 4, .sw 5, .m 3, .t .str, .t .str, .t .str, .t .node, .b]
noncomputable def effect_rows_more {R : Type} (N : Nat) (row Port : Int) (Event : List UInt8) (Vars Ports Timers : List (List UInt8)) (Nodes : List Node) (many : Bool) (l : List Next) (long : List Int) (known_L : List (List Sc × Int × Nat)) (known_cl : Nat) (k0 : Int → Option R) (k1 : Int → (List (List Sc × Int × Nat)) → Nat → (List Next) → (List Int) → Option R) : Option R :=
 if ((findM [.int .i64 row, .int .i64 Port, .str Event] known_L).isSome) = true then
  (k0 ((findM [.int .i64 row, .int .i64 Port, .str Event] known_L).getD 0))
 else
  (if l.length + [(⟨row, (⟨Port, Event⟩ : Mark)⟩ : Next)].length ≤ maxRow then (if (0 : Int) ≤ row ∧ row < (long.length : Int) then (match long[row.toNat]? with
  | some e1 => (if long.length + [IntKind.wrap .i64 (e1 + 1)].length ≤ maxRow then (k1 (IntKind.wrap .i64 ((((l ++ [(⟨row, (⟨Port, Event⟩ : Mark)⟩ : Next)]).length : Nat) : Int) - 1)) (updM [.int .i64 row, .int .i64 Port, .str Event] (IntKind.wrap .i64 ((((l ++ [(⟨row, (⟨Port, Event⟩ : Mark)⟩ : Next)]).length : Nat) : Int) - 1)) known_cl known_L) (if (findM [.int .i64 row, .int .i64 Port, .str Event] known_L).isSome = true then known_cl else known_cl + 1) (l ++ [(⟨row, (⟨Port, Event⟩ : Mark)⟩ : Next)]) (long ++ [IntKind.wrap .i64 (e1 + 1)])) else none)
  | none => none) else none) else none)
noncomputable def effect_rows_more_D (N : Nat) : FD E0 := { f := 89, fn := Tryz.f89, q := ⟨[.p 0 0 0, .i .i64, .ag [.i .i64, .st]], [z32, .rw .next .app, .rw .int .app, z33]⟩ }
noncomputable def effect_rows_more_S (N : Nat) : OC E0 := ⟨_, FD.ct e0 (effect_rows_more_D N) N (fun R k a b c d e g h i j l m o => effect_rows_more N a b c d e g h i j l m o (fun p => oK ⟨.i .i64, [z32, .rw .next .app, .rw .int .app, z33], []⟩ k p d e g h i j l m o) (fun p => oK ⟨.i .i64, [z34, .rw .next .ro, .rw .int .ro, z33], [.rw .next .app, .rw .int .app]⟩ k p d e g h i j l))⟩
def z35 : ShO S := .bx [.sw 7, .sw 8, .m 3, .t .str, .t .str, .t .str, .t .node, .b]
noncomputable def effect_rows_mark_l0_b {R : Type} (N : Nat) (r_36 r_37 r_38 : List (List UInt8)) (r_39 : List Node) (o_41 : List Next) (o_42 : List Int) (b_45 : Bool) (o_46 : List (List Sc × Bool × Nat)) (o_47 : Nat) (o_48 : List (List Sc × Bool × Nat)) (o_49 : Nat) (m_52 : Int) (m_53 : List UInt8) (v_56 : Nat) (kp0 : Bool → (List (List Sc × Int × Nat)) → Nat → (List Next) → (List Int) → (List (List Sc × Bool × Nat)) → Nat → Option R) (rec : Bool → (List (List Sc × Int × Nat)) → Nat → (List Next) → (List Int) → (List (List Sc × Bool × Nat)) → Nat → (List Nat) → Nat → Option R) (r_40 : Bool) (o_43 : List (List Sc × Int × Nat)) (o_44 : Nat) (o_50 : List Next) (o_51 : List Int) (t_54 : List (List Sc × Bool × Nat)) (t_55 : Nat) (v_57 : List Nat) (v_58 : Nat) : Option R :=
 nextC v_56 v_57 v_58 o_46 (kp0 r_40 o_43 o_44 o_50 o_51 t_54 t_55) fun n59 =>
 if o_47 = o_47 then (match findB n59.2.2 o_46 with
 | some en60 => (effect_rows_more N (scI en60.1) m_52 m_53 r_36 r_37 r_38 r_39 r_40 o_50 o_51 o_43 o_44 (fun r61 =>
 effect_rows_put N r61 r_36 r_37 r_38 r_39 r_40 o_50 o_51 o_43 o_44 t_54 t_55 (fun r62 r63 r64 =>
 rec r62 o_43 o_44 o_50 o_51 r63 r64 (n59.2.2 :: v_57) o_47)) (fun r65 r66 r67 r68 r69 =>
 effect_rows_put N r65 r_36 r_37 r_38 r_39 r_40 r68 r69 r66 r67 t_54 t_55 (fun r70 r71 r72 =>
 rec r70 r66 r67 r68 r69 r71 r72 (n59.2.2 :: v_57) o_47)))
 | none => none) else none
noncomputable def effect_rows_mark_l0 {R : Type} (N : Nat) (r_36 r_37 r_38 : List (List UInt8)) (r_39 : List Node) (o_41 : List Next) (o_42 : List Int) (b_45 : Bool) (o_46 : List (List Sc × Bool × Nat)) (o_47 : Nat) (o_48 : List (List Sc × Bool × Nat)) (o_49 : Nat) (m_52 : Int) (m_53 : List UInt8) (v_56 : Nat) (kp0 : Bool → (List (List Sc × Int × Nat)) → Nat → (List Next) → (List Int) → (List (List Sc × Bool × Nat)) → Nat → Option R) : Nat → Bool → (List (List Sc × Int × Nat)) → Nat → (List Next) → (List Int) → (List (List Sc × Bool × Nat)) → Nat → (List Nat) → Nat → Option R
 | 0 => fun _ _ _ _ _ _ _ _ _ => none
 | n + 1 => fun r_40 o_43 o_44 o_50 o_51 t_54 t_55 v_57 v_58 => effect_rows_mark_l0_b N r_36 r_37 r_38 r_39 o_41 o_42 b_45 o_46 o_47 o_48 o_49 m_52 m_53 v_56 kp0 (effect_rows_mark_l0 N r_36 r_37 r_38 r_39 o_41 o_42 b_45 o_46 o_47 o_48 o_49 m_52 m_53 v_56 kp0 n) r_40 o_43 o_44 o_50 o_51 t_54 t_55 v_57 v_58
noncomputable def effect_rows_mark {R : Type} (N : Nat) (Port : Int) (Event : List UInt8) (Vars Ports Timers : List (List UInt8)) (Nodes : List Node) (many : Bool) (l : List Next) (long : List Int) (known_L : List (List Sc × Int × Nat)) (known_cl : Nat) (both : Bool) (t_L : List (List Sc × Bool × Nat)) (t_cl : Nat) (f_L : List (List Sc × Bool × Nat)) (f_cl : Nat) (k0 : Bool → (List (List Sc × Int × Nat)) → Nat → Bool → (List Next) → (List Int) → (List (List Sc × Bool × Nat)) → Nat → Option R) : Option R :=
 effect_rows_mark_l0 N Vars Ports Timers Nodes l long both t_L t_cl f_L f_cl Port Event t_cl (fun y73 y74 y75 y76 y77 y78 y79 =>
 k0 y73 y74 y75 false y76 y77 y78 y79) N many known_L known_cl l long ([] : List (List Sc × Bool × Nat)) 0 [] t_cl
noncomputable def effect_rows_mark_D (N : Nat) : FD E0 := { f := 57, fn := Tryz.f57, q := ⟨[.p 0 0 0, .p 4 0 0, .ag [.i .i64, .st]], [z32, .rw .next .app, .rw .int .app, z33, .bx [.m 5, .m 6, .b], .mx false [.int .i64] false .bool, .mx false [.int .i64] false .bool]⟩, loops := [{ cur := 0, live := [0, 1, 5, 6, 13], fix := [(⟨0, [0]⟩, .fresh .next .app), (⟨0, [1]⟩, .fresh .int .app)], out := fun | .exit 0 => ([1, 6], []) | _ => ([], []), q := ⟨[.p 0 0 0, .p 4 0 0, .p 9 0 0, .m 10, .p 11 0 0], [z35, .rw .next .ro, .rw .int .ro, z33, .bx [.m 5, .m 6, .b], .mx false [.int .i64] false .bool, .mx false [.int .i64] false .bool, .rw .next .app, .rw .int .app, .bx [.i .i64, .st], .mx false [.int .i64] false .bool, .it 5]⟩, G := fun R K n a b c d e g h i j l m o p q s t u v w x y z a1 => effect_rows_mark_l0 N a b c d g h l m o p q u v y (fun b1 c1 d1 => pK ⟨[.p 4 0 0, .m 9], [z35, .rw .next .ro, .rw .int .ro, z33, .bx [.m 5, .m 6, .b], .mx false [.int .i64] false .bool, .mx false [.int .i64] false .bool, .rw .next .app, .rw .int .app, .mx false [.int .i64] false .bool]⟩ (K (.exit 0)) a b c d b1 g h c1 d1 l m o p q) n e i j s t w x z a1, B := fun R K rec a b c d e g h i j l m o p q s t u v w x y z a1 => effect_rows_mark_l0_b N a b c d g h l m o p q u v y (fun b1 c1 d1 => pK ⟨[.p 4 0 0, .m 9], [z35, .rw .next .ro, .rw .int .ro, z33, .bx [.m 5, .m 6, .b], .mx false [.int .i64] false .bool, .mx false [.int .i64] false .bool, .rw .next .app, .rw .int .app, .mx false [.int .i64] false .bool]⟩ (K (.exit 0)) a b c d b1 g h c1 d1 l m o p q) (fun e i j s t w x z a1 => rec a b c d e g h i j l m o p q s t u v w x y z a1) e i j s t w x z a1 }], g := [effect_rows_put_S N, effect_rows_more_S N], nd := true }
noncomputable def effect_rows_mark_S (N : Nat) : OCM E0 := ⟨_, FD.ctm e0 (effect_rows_mark_D N) N (fun R k a b c d e g h i j l m o p q s t => effect_rows_mark N a b c d e g h i j l m o p q s t (fun u v w x => oK ⟨.tp [], [z35, .rw .next .ro, .rw .int .ro, z33, .bx [.m 9, .m 6, .b], .mx false [.int .i64] false .bool, .mx false [.int .i64] false .bool], [.rw .next .app, .rw .int .app, .mx false [.int .i64] false .bool]⟩ k c d e g u i j v w x p q s t))⟩
noncomputable def slices_Reverse_Mark_l0_b {R : Type} (N : Nat)  (kp0 : (List Mark) → Option R) (rec : Int → Int → (List Mark) → Option R) (i_1 j_2 : Int) (s_3 : List Mark) : Option R :=
 if (decide (i_1 < j_2)) = true then
  (if (0 : Int) ≤ j_2 ∧ j_2 < (s_3.length : Int) then (match s_3[j_2.toNat]? with
  | some e4 => (if (0 : Int) ≤ i_1 ∧ i_1 < (s_3.length : Int) then (match s_3[i_1.toNat]? with
    | some e5 => (if (0 : Int) ≤ i_1 ∧ i_1 < (s_3.length : Int) then (match s_3[i_1.toNat]? with
      | some e6 => (if (0 : Int) ≤ j_2 ∧ j_2 < ((s_3.set i_1.toNat e4).length : Int) then (match (s_3.set i_1.toNat e4)[j_2.toNat]? with
        | some e7 => (rec (IntKind.wrap .i64 (i_1 + 1)) (IntKind.wrap .i64 (j_2 - 1)) ((s_3.set i_1.toNat e4).set j_2.toNat e5))
        | none => none) else none)
      | none => none) else none)
    | none => none) else none)
  | none => none) else none)
 else
  (kp0 s_3)
noncomputable def slices_Reverse_Mark_l0 {R : Type} (N : Nat)  (kp0 : (List Mark) → Option R) : Nat → Int → Int → (List Mark) → Option R
 | 0 => fun _ _ _ => none
 | n + 1 => fun i_1 j_2 s_3 => slices_Reverse_Mark_l0_b N  kp0 (slices_Reverse_Mark_l0 N  kp0 n) i_1 j_2 s_3
noncomputable def slices_Reverse_Mark {R : Type} (N : Nat) (s : List Mark) (k0 : (List Mark) → Option R) : Option R :=
 slices_Reverse_Mark_l0 N  (fun y8 =>
 k0 y8) N 0 (IntKind.wrap .i64 (((s.length : Nat) : Int) - 1)) s
noncomputable def slices_Reverse_Mark_D (N : Nat) : FD E0 := { f := 38, fn := Tryz.f38, q := ⟨[.sw 0], [.rw .mark .own]⟩, loops := [{ cur := 0, live := [0, 2, 3], out := fun | .exit 0 => ([], []) | _ => ([], []), q := ⟨[.sw 0, .i .i64, .i .i64], [.rw .mark .own]⟩, G := fun R K n a b c => slices_Reverse_Mark_l0 N  (pK ⟨[], [.rw .mark .own]⟩ (K (.exit 0))) n a b c, B := fun R K rec a b c => slices_Reverse_Mark_l0_b N  (pK ⟨[], [.rw .mark .own]⟩ (K (.exit 0))) (rec ) a b c }] }
noncomputable def slices_Reverse_Mark_S (N : Nat) : OC E0 := ⟨_, FD.ct e0 (slices_Reverse_Mark_D N) N (fun R k a => slices_Reverse_Mark N a (oK ⟨.tp [], [.rw .mark .own], []⟩ k))⟩
noncomputable def effect_rows_marks_l0_b {R : Type} (N : Nat) (r_14 r_15 r_16 : List (List UInt8)) (r_17 : List Node) (r_18 : Bool) (o_19 : List Next) (o_20 : List Int) (o_21 : List (List Sc × Int × Nat)) (o_22 : Nat) (kp0 : (List Mark) → Option R) (rec : Int → (List Mark) → Option R) (row_13 : Int) (out_23 : List Mark) : Option R :=
 if (decide (row_13 > 0)) = true then
  (if (0 : Int) ≤ row_13 ∧ row_13 < (o_19.length : Int) then (match o_19[row_13.toNat]? with
  | some e24 => (if out_23.length + [e24.mark].length ≤ maxRow then (if (0 : Int) ≤ row_13 ∧ row_13 < (o_19.length : Int) then (match o_19[row_13.toNat]? with
  | some e25 => (rec e25.row (out_23 ++ [e24.mark]))
  | none => none) else none) else none)
  | none => none) else none)
 else
  (kp0 out_23)
noncomputable def effect_rows_marks_l0 {R : Type} (N : Nat) (r_14 r_15 r_16 : List (List UInt8)) (r_17 : List Node) (r_18 : Bool) (o_19 : List Next) (o_20 : List Int) (o_21 : List (List Sc × Int × Nat)) (o_22 : Nat) (kp0 : (List Mark) → Option R) : Nat → Int → (List Mark) → Option R
 | 0 => fun _ _ => none
 | n + 1 => fun row_13 out_23 => effect_rows_marks_l0_b N r_14 r_15 r_16 r_17 r_18 o_19 o_20 o_21 o_22 kp0 (effect_rows_marks_l0 N r_14 r_15 r_16 r_17 r_18 o_19 o_20 o_21 o_22 kp0 n) row_13 out_23
noncomputable def effect_rows_marks {R : Type} (N : Nat) (row : Int) (Vars Ports Timers : List (List UInt8)) (Nodes : List Node) (many : Bool) (l : List Next) (long : List Int) (known_L : List (List Sc × Int × Nat)) (known_cl : Nat) (k0 : (List Mark) → Option R) : Option R :=
 effect_rows_marks_l0 N Vars Ports Timers Nodes many l long known_L known_cl (fun y26 =>
 slices_Reverse_Mark N y26 (fun r27 =>
 k0 r27)) N row ([] : List Mark)
noncomputable def effect_rows_marks_D (N : Nat) : FD E0 := { f := 21, fn := Tryz.f21, q := ⟨[.p 0 0 0, .i .i64], [z32, .rw .next .app, .rw .int .app, z33]⟩, loops := [{ cur := 0, live := [0, 1, 5], fix := [(⟨5, []⟩, .row .mark .own)], out := fun | .exit 0 => ([5], []) | _ => ([], []), q := ⟨[.p 0 0 0, .i .i64, .sw 4], [z32, .rw .next .app, .rw .int .app, z33, .rw .mark .own]⟩, G := fun R K n a b c d e g h i j l m => effect_rows_marks_l0 N b c d e g h i j l (pK ⟨[.sw 4], [z32, .rw .next .app, .rw .int .app, z33, .rw .mark .own]⟩ (K (.exit 0)) b c d e g h i j l) n a m, B := fun R K rec a b c d e g h i j l m => effect_rows_marks_l0_b N b c d e g h i j l (pK ⟨[.sw 4], [z32, .rw .next .app, .rw .int .app, z33, .rw .mark .own]⟩ (K (.exit 0)) b c d e g h i j l) (fun a m => rec a b c d e g h i j l m) a m }], g := [slices_Reverse_Mark_S N], mode := fun | 25 => .own | 26 => .own | _ => .app }
noncomputable def effect_rows_marks_S (N : Nat) : OC E0 := ⟨_, FD.ctq e0 (effect_rows_marks_D N) N (fun R k a b c d e g h i j l => effect_rows_marks N a b c d e g h i j l (oQ ⟨.sw 4, [], [.rw .mark .own]⟩ k))⟩
noncomputable def effect_rows_then_l4_b {R : Type} (N : Nat) (v_79 : Int) (r_81 r_82 r_83 : List (List UInt8)) (r_84 : List Node) (r_85 : Bool) (o_86 : List Next) (o_87 : List Int) (out_90 : List (List Sc × Bool × Nat)) (out_91 : Nat) (ahead_92 : List (List Sc × Bool × Nat)) (ahead_93 : Nat) (o_94 : List (List Sc × Bool × Nat)) (o_95 : Nat) (marks_98 : List Mark) (v_99 : Nat) (v_100 : List Nat) (v_101 v_102 : Nat) (v_103 : List Nat) (v_104 : Nat) (kp0 : Int → (List (List Sc × Int × Nat)) → Nat → (List Next) → (List Int) → Option R) (rec : Int → Int → (List (List Sc × Int × Nat)) → Nat → (List Next) → (List Int) → Option R) (x_78 v_80 : Int) (o_88 : List (List Sc × Int × Nat)) (o_89 : Nat) (o_96 : List Next) (o_97 : List Int) : Option R :=
 if (decide (v_80 < v_79)) = true then
  (if (0 : Int) ≤ v_80 ∧ v_80 < (marks_98.length : Int) then (match marks_98[v_80.toNat]? with
  | some e105 => (effect_rows_more N x_78 e105.Port e105.Event r_81 r_82 r_83 r_84 r_85 o_96 o_97 o_88 o_89 (fun r106 =>
 rec r106 (IntKind.wrap .i64 (v_80 + 1)) o_88 o_89 o_96 o_97) (fun r107 r108 r109 r110 r111 =>
 rec r107 (IntKind.wrap .i64 (v_80 + 1)) r108 r109 r110 r111))
  | none => none) else none)
 else
  (kp0 x_78 o_88 o_89 o_96 o_97)
noncomputable def effect_rows_then_l4 {R : Type} (N : Nat) (v_79 : Int) (r_81 r_82 r_83 : List (List UInt8)) (r_84 : List Node) (r_85 : Bool) (o_86 : List Next) (o_87 : List Int) (out_90 : List (List Sc × Bool × Nat)) (out_91 : Nat) (ahead_92 : List (List Sc × Bool × Nat)) (ahead_93 : Nat) (o_94 : List (List Sc × Bool × Nat)) (o_95 : Nat) (marks_98 : List Mark) (v_99 : Nat) (v_100 : List Nat) (v_101 v_102 : Nat) (v_103 : List Nat) (v_104 : Nat) (kp0 : Int → (List (List Sc × Int × Nat)) → Nat → (List Next) → (List Int) → Option R) : Nat → Int → Int → (List (List Sc × Int × Nat)) → Nat → (List Next) → (List Int) → Option R
 | 0 => fun _ _ _ _ _ _ => none
 | n + 1 => fun x_78 v_80 o_88 o_89 o_96 o_97 => effect_rows_then_l4_b N v_79 r_81 r_82 r_83 r_84 r_85 o_86 o_87 out_90 out_91 ahead_92 ahead_93 o_94 o_95 marks_98 v_99 v_100 v_101 v_102 v_103 v_104 kp0 (effect_rows_then_l4 N v_79 r_81 r_82 r_83 r_84 r_85 o_86 o_87 out_90 out_91 ahead_92 ahead_93 o_94 o_95 marks_98 v_99 v_100 v_101 v_102 v_103 v_104 kp0 n) x_78 v_80 o_88 o_89 o_96 o_97
noncomputable def effect_rows_then_l2_b {R : Type} (N : Nat) (r_120 r_121 r_122 : List (List UInt8)) (r_123 : List Node) (o_125 : List Next) (o_126 : List Int) (ahead_131 : List (List Sc × Bool × Nat)) (ahead_132 : Nat) (o_133 : List (List Sc × Bool × Nat)) (o_134 : Nat) (marks_137 : List Mark) (v_138 : Nat) (v_139 : List Nat) (v_140 v_141 : Nat) (kp0 kp1 : Bool → (List (List Sc × Int × Nat)) → Nat → (List (List Sc × Bool × Nat)) → Nat → (List Next) → (List Int) → Option R) (rec : Bool → (List (List Sc × Int × Nat)) → Nat → (List (List Sc × Bool × Nat)) → Nat → (List Next) → (List Int) → (List Nat) → Nat → Option R) (r_124 : Bool) (o_127 : List (List Sc × Int × Nat)) (o_128 : Nat) (out_129 : List (List Sc × Bool × Nat)) (out_130 : Nat) (o_135 : List Next) (o_136 : List Int) (v_142 : List Nat) (v_143 : Nat) : Option R :=
 nextC v_141 v_142 v_143 ahead_131 (kp0 r_124 o_127 o_128 out_129 out_130 o_135 o_136) fun n144 =>
 if ahead_132 = ahead_132 then (match findB n144.2.2 ahead_131 with
 | some en145 => (if r_124 = true then
  (kp1 r_124 o_127 o_128 out_129 out_130 o_135 o_136)
 else
  (effect_rows_then_l4 N ((marks_137.length : Nat) : Int) r_120 r_121 r_122 r_123 r_124 o_125 o_126 out_129 out_130 ahead_131 ahead_132 o_133 o_134 marks_137 v_138 v_139 v_140 v_141 (n144.2.2 :: v_142) ahead_132 (fun y146 y147 y148 y149 y150 =>
 effect_rows_put N y146 r_120 r_121 r_122 r_123 r_124 y149 y150 y147 y148 out_129 out_130 (fun r151 r152 r153 =>
 rec r151 y147 y148 r152 r153 y149 y150 (n144.2.2 :: v_142) ahead_132)) N (scI en145.1) 0 o_127 o_128 o_135 o_136))
 | none => none) else none
noncomputable def effect_rows_then_l2 {R : Type} (N : Nat) (r_120 r_121 r_122 : List (List UInt8)) (r_123 : List Node) (o_125 : List Next) (o_126 : List Int) (ahead_131 : List (List Sc × Bool × Nat)) (ahead_132 : Nat) (o_133 : List (List Sc × Bool × Nat)) (o_134 : Nat) (marks_137 : List Mark) (v_138 : Nat) (v_139 : List Nat) (v_140 v_141 : Nat) (kp0 kp1 : Bool → (List (List Sc × Int × Nat)) → Nat → (List (List Sc × Bool × Nat)) → Nat → (List Next) → (List Int) → Option R) : Nat → Bool → (List (List Sc × Int × Nat)) → Nat → (List (List Sc × Bool × Nat)) → Nat → (List Next) → (List Int) → (List Nat) → Nat → Option R
 | 0 => fun _ _ _ _ _ _ _ _ _ => none
 | n + 1 => fun r_124 o_127 o_128 out_129 out_130 o_135 o_136 v_142 v_143 => effect_rows_then_l2_b N r_120 r_121 r_122 r_123 o_125 o_126 ahead_131 ahead_132 o_133 o_134 marks_137 v_138 v_139 v_140 v_141 kp0 kp1 (effect_rows_then_l2 N r_120 r_121 r_122 r_123 o_125 o_126 ahead_131 ahead_132 o_133 o_134 marks_137 v_138 v_139 v_140 v_141 kp0 kp1 n) r_124 o_127 o_128 out_129 out_130 o_135 o_136 v_142 v_143
noncomputable def effect_rows_then_l0_b {R : Type} (N : Nat) (r_161 r_162 r_163 : List (List UInt8)) (r_164 : List Node) (o_166 : List Next) (o_167 : List Int) (ahead_172 : List (List Sc × Bool × Nat)) (ahead_173 : Nat) (o_174 : List (List Sc × Bool × Nat)) (o_175 v_178 : Nat) (kp0 kp1 : Bool → (List (List Sc × Int × Nat)) → Nat → (List (List Sc × Bool × Nat)) → Nat → (List Next) → (List Int) → Option R) (rec : Bool → (List (List Sc × Int × Nat)) → Nat → (List (List Sc × Bool × Nat)) → Nat → (List Next) → (List Int) → (List Nat) → Nat → Option R) (r_165 : Bool) (o_168 : List (List Sc × Int × Nat)) (o_169 : Nat) (out_170 : List (List Sc × Bool × Nat)) (out_171 : Nat) (o_176 : List Next) (o_177 : List Int) (v_179 : List Nat) (v_180 : Nat) : Option R :=
 nextC v_178 v_179 v_180 o_174 (kp0 r_165 o_168 o_169 out_170 out_171 o_176 o_177) fun n181 =>
 if o_175 = o_175 then (match findB n181.2.2 o_174 with
 | some en182 => (effect_rows_marks N (scI en182.1) r_161 r_162 r_163 r_164 r_165 o_176 o_177 o_168 o_169 (fun r183 =>
 effect_rows_then_l2 N r_161 r_162 r_163 r_164 o_166 o_167 ahead_172 ahead_173 o_174 o_175 r183 v_178 (n181.2.2 :: v_179) o_175 ahead_173 (fun y184 y185 y186 y187 y188 y189 y190 =>
 rec y184 y185 y186 y187 y188 y189 y190 (n181.2.2 :: v_179) o_175)
  (fun y191 y192 y193 y194 y195 y196 y197 =>
 kp1 y191 y192 y193 y194 y195 y196 y197) N r_165 o_168 o_169 out_170 out_171 o_176 o_177 [] ahead_173))
 | none => none) else none
noncomputable def effect_rows_then_l0 {R : Type} (N : Nat) (r_161 r_162 r_163 : List (List UInt8)) (r_164 : List Node) (o_166 : List Next) (o_167 : List Int) (ahead_172 : List (List Sc × Bool × Nat)) (ahead_173 : Nat) (o_174 : List (List Sc × Bool × Nat)) (o_175 v_178 : Nat) (kp0 kp1 : Bool → (List (List Sc × Int × Nat)) → Nat → (List (List Sc × Bool × Nat)) → Nat → (List Next) → (List Int) → Option R) : Nat → Bool → (List (List Sc × Int × Nat)) → Nat → (List (List Sc × Bool × Nat)) → Nat → (List Next) → (List Int) → (List Nat) → Nat → Option R
 | 0 => fun _ _ _ _ _ _ _ _ _ => none
 | n + 1 => fun r_165 o_168 o_169 out_170 out_171 o_176 o_177 v_179 v_180 => effect_rows_then_l0_b N r_161 r_162 r_163 r_164 o_166 o_167 ahead_172 ahead_173 o_174 o_175 v_178 kp0 kp1 (effect_rows_then_l0 N r_161 r_162 r_163 r_164 o_166 o_167 ahead_172 ahead_173 o_174 o_175 v_178 kp0 kp1 n) r_165 o_168 o_169 out_170 out_171 o_176 o_177 v_179 v_180
noncomputable def effect_rows_then {R : Type} (N : Nat) (Vars Ports Timers : List (List UInt8)) (Nodes : List Node) (many : Bool) (l : List Next) (long : List Int) (known_L : List (List Sc × Int × Nat)) (known_cl : Nat) (out_L : List (List Sc × Bool × Nat)) (out_cl : Nat) (ahead_L : List (List Sc × Bool × Nat)) (ahead_cl : Nat) (behind_L : List (List Sc × Bool × Nat)) (behind_cl : Nat) (k0 : Bool → (List (List Sc × Int × Nat)) → Nat → (List (List Sc × Bool × Nat)) → Nat → (List Next) → (List Int) → Option R) : Option R :=
 effect_rows_then_l0 N Vars Ports Timers Nodes l long ahead_L ahead_cl behind_L behind_cl behind_cl (fun y198 y199 y200 y201 y202 y203 y204 =>
 k0 y198 y199 y200 y201 y202 y203 y204)
  (fun y205 y206 y207 y208 y209 y210 y211 =>
 k0 y205 y206 y207 y208 y209 y210 y211) N many known_L known_cl out_L out_cl l long [] behind_cl
noncomputable def effect_rows_then_D (N : Nat) : FD E0 := { f := 90, fn := Tryz.f90, q := ⟨[.p 0 0 0, .m 4, .m 5, .m 6], [z32, .rw .next .app, .rw .int .app, z33, .mx false [.int .i64] false .bool, .mx false [.int .i64] false .bool, .mx false [.int .i64] false .bool]⟩, loops := [{ cur := 4, live := [0, 1, 2, 9, 10, 14, 23, 32, 33, 34], fix := [(⟨0, [0]⟩, .fresh .next .app), (⟨0, [1]⟩, .fresh .int .app)], out := fun | .exit 4 => ([0, 1, 2, 9, 10, 14, 23], []) | _ => ([], []), q := ⟨[.p 0 0 0, .m 4, .m 5, .sw 9, .i .i64, .p 10 0 0, .p 11 0 0, .sw 9, .i .i64, .i .i64], [z35, .rw .next .ro, .rw .int .ro, z33, .mx false [.int .i64] false .bool, .mx false [.int .i64] false .bool, .mx false [.int .i64] false .bool, .rw .next .app, .rw .int .app, .rw .mark .own, .it 6, .it 5]⟩, G := fun R K n a b c d e g h i j l m o p q s t u v w x y z a1 b1 c1 d1 e1 => effect_rows_then_l4 N b d e g h i j l p q s t u v y z a1 b1 c1 d1 e1 (fun g1 h1 i1 j1 l1 => pK ⟨[.p 0 0 0, .m 4, .m 5, .sw 9, .i .i64, .p 10 0 0, .p 11 0 0], [z35, .rw .next .ro, .rw .int .ro, z33, .mx false [.int .i64] false .bool, .mx false [.int .i64] false .bool, .mx false [.int .i64] false .bool, .rw .next .app, .rw .int .app, .rw .mark .own, .it 6, .it 5]⟩ (K (.exit 4)) g1 d e g h i j l h1 i1 p q s t u v j1 l1 y z a1 b1 c1 d1 e1) n a c m o w x, B := fun R K rec a b c d e g h i j l m o p q s t u v w x y z a1 b1 c1 d1 e1 => effect_rows_then_l4_b N b d e g h i j l p q s t u v y z a1 b1 c1 d1 e1 (fun g1 h1 i1 j1 l1 => pK ⟨[.p 0 0 0, .m 4, .m 5, .sw 9, .i .i64, .p 10 0 0, .p 11 0 0], [z35, .rw .next .ro, .rw .int .ro, z33, .mx false [.int .i64] false .bool, .mx false [.int .i64] false .bool, .mx false [.int .i64] false .bool, .rw .next .app, .rw .int .app, .rw .mark .own, .it 6, .it 5]⟩ (K (.exit 4)) g1 d e g h i j l h1 i1 p q s t u v j1 l1 y z a1 b1 c1 d1 e1) (fun a c m o w x => rec a b c d e g h i j l m o p q s t u v w x y z a1 b1 c1 d1 e1) a c m o w x }, { cur := 2, live := [0, 1, 2, 9, 14, 23], fix := [(⟨0, [0]⟩, .fresh .next .app), (⟨0, [1]⟩, .fresh .int .app)], out := fun | .exit 2 => ([0, 1, 2, 14], []) | .ret => ([], []) | _ => ([], []), q := ⟨[.p 0 0 0, .m 4, .m 5, .sw 9, .p 10 0 0, .p 11 0 0], [z35, .rw .next .ro, .rw .int .ro, z33, .mx false [.int .i64] false .bool, .mx false [.int .i64] false .bool, .mx false [.int .i64] false .bool, .rw .next .app, .rw .int .app, .rw .mark .own, .it 6, .it 5]⟩, G := fun R K n a b c d e g h i j l m o p q s t u v w x y z a1 b1 => effect_rows_then_l2 N a b c d g h o p q s v w x y z (fun c1 d1 e1 g1 h1 i1 j1 => pK ⟨[.p 0 0 0, .m 4, .m 5, .p 9 0 0], [z35, .rw .next .ro, .rw .int .ro, z33, .mx false [.int .i64] false .bool, .mx false [.int .i64] false .bool, .mx false [.int .i64] false .bool, .rw .next .app, .rw .int .app, .it 6]⟩ (K (.exit 2)) a b c d c1 g h d1 e1 g1 h1 o p q s i1 j1 w x y) (fun c1 d1 e1 g1 h1 => pK ⟨[], [z35, .rw .next .ro, .rw .int .ro, z33, .mx false [.int .i64] false .bool, .mx false [.int .i64] false .bool, .mx false [.int .i64] false .bool, .rw .next .app, .rw .int .app]⟩ (K .ret) a b c d c1 g h d1 e1 g1 h1 o p q s) n e i j l m t u a1 b1, B := fun R K rec a b c d e g h i j l m o p q s t u v w x y z a1 b1 => effect_rows_then_l2_b N a b c d g h o p q s v w x y z (fun c1 d1 e1 g1 h1 i1 j1 => pK ⟨[.p 0 0 0, .m 4, .m 5, .p 9 0 0], [z35, .rw .next .ro, .rw .int .ro, z33, .mx false [.int .i64] false .bool, .mx false [.int .i64] false .bool, .mx false [.int .i64] false .bool, .rw .next .app, .rw .int .app, .it 6]⟩ (K (.exit 2)) a b c d c1 g h d1 e1 g1 h1 o p q s i1 j1 w x y) (fun c1 d1 e1 g1 h1 => pK ⟨[], [z35, .rw .next .ro, .rw .int .ro, z33, .mx false [.int .i64] false .bool, .mx false [.int .i64] false .bool, .mx false [.int .i64] false .bool, .rw .next .app, .rw .int .app]⟩ (K .ret) a b c d c1 g h d1 e1 g1 h1 o p q s) (fun e i j l m t u a1 b1 => rec a b c d e g h i j l m o p q s t u v w x y z a1 b1) e i j l m t u a1 b1 }, { cur := 0, live := [0, 1, 2, 14], fix := [(⟨0, [0]⟩, .fresh .next .app), (⟨0, [1]⟩, .fresh .int .app)], out := fun | .exit 0 => ([], []) | .ret => ([], []) | _ => ([], []), q := ⟨[.p 0 0 0, .m 4, .m 5, .p 9 0 0], [z35, .rw .next .ro, .rw .int .ro, z33, .mx false [.int .i64] false .bool, .mx false [.int .i64] false .bool, .mx false [.int .i64] false .bool, .rw .next .app, .rw .int .app, .it 6]⟩, G := fun R K n a b c d e g h i j l m o p q s t u v w x => effect_rows_then_l0 N a b c d g h o p q s v (fun y z a1 b1 c1 => pK ⟨[], [z35, .rw .next .ro, .rw .int .ro, z33, .mx false [.int .i64] false .bool, .mx false [.int .i64] false .bool, .mx false [.int .i64] false .bool, .rw .next .app, .rw .int .app]⟩ (K (.exit 0)) a b c d y g h z a1 b1 c1 o p q s) (fun y z a1 b1 c1 => pK ⟨[], [z35, .rw .next .ro, .rw .int .ro, z33, .mx false [.int .i64] false .bool, .mx false [.int .i64] false .bool, .mx false [.int .i64] false .bool, .rw .next .app, .rw .int .app]⟩ (K .ret) a b c d y g h z a1 b1 c1 o p q s) n e i j l m t u w x, B := fun R K rec a b c d e g h i j l m o p q s t u v w x => effect_rows_then_l0_b N a b c d g h o p q s v (fun y z a1 b1 c1 => pK ⟨[], [z35, .rw .next .ro, .rw .int .ro, z33, .mx false [.int .i64] false .bool, .mx false [.int .i64] false .bool, .mx false [.int .i64] false .bool, .rw .next .app, .rw .int .app]⟩ (K (.exit 0)) a b c d y g h z a1 b1 c1 o p q s) (fun y z a1 b1 c1 => pK ⟨[], [z35, .rw .next .ro, .rw .int .ro, z33, .mx false [.int .i64] false .bool, .mx false [.int .i64] false .bool, .mx false [.int .i64] false .bool, .rw .next .app, .rw .int .app]⟩ (K .ret) a b c d y g h z a1 b1 c1 o p q s) (fun e i j l m t u w x => rec a b c d e g h i j l m o p q s t u v w x) e i j l m t u w x }], g := [effect_rows_marks_S N, effect_rows_put_S N, effect_rows_more_S N], nd := true }
noncomputable def effect_rows_then_S (N : Nat) : OCM E0 := ⟨_, FD.ctm e0 (effect_rows_then_D N) N (fun R k a b c d e g h i j l m o p q s => effect_rows_then N a b c d e g h i j l m o p q s (fun t u v w x => oK ⟨.tp [], [z35, .rw .next .ro, .rw .int .ro, z33, .mx false [.int .i64] false .bool, .mx false [.int .i64] false .bool, .mx false [.int .i64] false .bool], [.rw .next .app, .rw .int .app]⟩ k a b c d t g h u v w x o p q s))⟩
def y6 : Sh S := .ag [.i .i64, .st, .st, .t .expr, .i .i64, .t .act, .t .act, .i .i64]
structure Fam_effect_rows_inner where
 effect_rows_inner : (R : Type) → (List Act) → (List (List UInt8)) → (List (List UInt8)) → (List (List UInt8)) → (List Node) → Bool → (List Next) → (List Int) → (List (List Sc × Int × Nat)) → Nat → (Bool → (List (List Sc × Int × Nat)) → Nat → (List Next) → (List Int) → Bool → (List (List Sc × Bool × Nat)) → Nat → (List (List Sc × Bool × Nat)) → Nat → Option R) → Option R
 effect_rows_acts : (R : Type) → (List Act) → (List (List UInt8)) → (List (List UInt8)) → (List (List UInt8)) → (List Node) → Bool → (List Next) → (List Int) → (List (List Sc × Int × Nat)) → Nat → Bool → (List (List Sc × Bool × Nat)) → Nat → (List (List Sc × Bool × Nat)) → Nat → (Bool → (List (List Sc × Int × Nat)) → Nat → Bool → (List (List Sc × Bool × Nat)) → Nat → (List Next) → (List Int) → (List (List Sc × Bool × Nat)) → Nat → Option R) → Option R
 effect_rows_choice : (R : Type) → Int → (List UInt8) → (List UInt8) → (List Expr) → Int → (List Act) → (List Act) → Int → (List (List UInt8)) → (List (List UInt8)) → (List (List UInt8)) → (List Node) → Bool → (List Next) → (List Int) → (List (List Sc × Int × Nat)) → Nat → Bool → (List (List Sc × Bool × Nat)) → Nat → (List (List Sc × Bool × Nat)) → Nat → (Bool → (List (List Sc × Int × Nat)) → Nat → Bool → (List (List Sc × Bool × Nat)) → Nat → (List Next) → (List Int) → (List (List Sc × Bool × Nat)) → Nat → Option R) → Option R
def effect_rows_inner_q : Pat S := ⟨[.p 0 0 0, .t .act], [z32, .rw .next .app, .rw .int .app, z33]⟩
noncomputable def effect_rows_inner_C (F : Fam_effect_rows_inner) : Ct S := ⟨17, effect_rows_inner_q, fun R k a b c d e g h i j l => F.effect_rows_inner R a b c d e g h i j l (fun m => oK ⟨.p 6 0 0, [z34, .rw .next .ro, .rw .int .ro, z33], [.rw .next .app, .rw .int .app, .bx [.m 7, .m 8, .b], .mx false [.int .i64] false .bool, .mx false [.int .i64] false .bool]⟩ k b c d e m h i)⟩
def effect_rows_acts_q : Pat S := ⟨[.p 0 0 0, .p 4 0 0, .t .act], [z32, .rw .next .app, .rw .int .app, z33, .bx [.m 5, .m 6, .b], .mx false [.int .i64] false .bool, .mx false [.int .i64] false .bool]⟩
noncomputable def effect_rows_acts_C (F : Fam_effect_rows_inner) : Ct S := ⟨34, effect_rows_acts_q, fun R k a b c d e g h i j l m o p q s => F.effect_rows_acts R a b c d e g h i j l m o p q s (fun t => oK ⟨.tp [], [z35, .rw .next .ro, .rw .int .ro, z33, .bx [.m 9, .m 6, .b], .g, .mx false [.int .i64] false .bool], [.rw .next .app, .rw .int .app, .mx false [.int .i64] false .bool]⟩ k b c d e t h i)⟩
def effect_rows_choice_q : Pat S := ⟨[.p 0 0 0, .p 4 0 0, y6], [z32, .rw .next .app, .rw .int .app, z33, .bx [.m 5, .m 6, .b], .mx false [.int .i64] false .bool, .mx false [.int .i64] false .bool]⟩
noncomputable def effect_rows_choice_C (F : Fam_effect_rows_inner) : Ct S := ⟨59, effect_rows_choice_q, fun R k a b c d e g h i j l m o p q s t u v w x y z => F.effect_rows_choice R a b c d e g h i j l m o p q s t u v w x y z (fun a1 b1 c1 d1 => oK ⟨.tp [], [z35, .rw .next .ro, .rw .int .ro, z33, .bx [.m 9, .m 6, .b], .mx false [.int .i64] false .bool, .mx false [.int .i64] false .bool], [.rw .next .app, .rw .int .app, .mx false [.int .i64] false .bool]⟩ k j l m o a1 q s b1 c1 d1 w x)⟩
structure Fam_effect_rows_inner_ok (F : Fam_effect_rows_inner) : Prop where
 effect_rows_inner : (effect_rows_inner_C F).okm E0
 effect_rows_acts : (effect_rows_acts_C F).okm E0
 effect_rows_choice : (effect_rows_choice_C F).okm E0
noncomputable def effect_rows_inner_d (F : Fam_effect_rows_inner) {R : Type} (N : Nat) (l : List Act) (Vars Ports Timers : List (List UInt8)) (Nodes : List Node) (many : Bool) (l_2 : List Next) (long : List Int) (known_L : List (List Sc × Int × Nat)) (known_cl : Nat) (k0 : Bool → (List (List Sc × Int × Nat)) → Nat → (List Next) → (List Int) → Bool → (List (List Sc × Bool × Nat)) → Nat → (List (List Sc × Bool × Nat)) → Nat → Option R) : Option R :=
 F.effect_rows_acts _ l Vars Ports Timers Nodes many l_2 long known_L known_cl false (updM [.int .i64 0] true 0 ([] : List (List Sc × Bool × Nat))) (if (findM [.int .i64 0] ([] : List (List Sc × Bool × Nat))).isSome = true then 0 else 0 + 1) ([] : List (List Sc × Bool × Nat)) 0 (fun r1 r2 r3 r4 r5 r6 r7 r8 r9 r10 =>
 k0 r1 r2 r3 r7 r8 r4 r9 r10 r5 r6)
noncomputable def effect_rows_inner_D (F : Fam_effect_rows_inner) (hF : Fam_effect_rows_inner_ok F) (N : Nat) : FD E0 := { f := 17, fn := Tryz.f17, q := effect_rows_inner_q, gm := [⟨effect_rows_acts_C F, hF.effect_rows_acts⟩], nd := true }
theorem effect_rows_inner_okF (F : Fam_effect_rows_inner) (hF : Fam_effect_rows_inner_ok F) (N : Nat) : Ct.okm E0 ⟨(effect_rows_inner_D F hF N).f, (effect_rows_inner_D F hF N).q, fun R k a b c d e g h i j l => effect_rows_inner_d F N a b c d e g h i j l (fun m => oK ⟨.p 6 0 0, [z34, .rw .next .ro, .rw .int .ro, z33], [.rw .next .app, .rw .int .app, .bx [.m 7, .m 8, .b], .mx false [.int .i64] false .bool, .mx false [.int .i64] false .bool]⟩ k b c d e m h i)⟩ := FD.ctm e0 (effect_rows_inner_D F hF N) N (fun R k a b c d e g h i j l => effect_rows_inner_d F N a b c d e g h i j l (fun m => oK ⟨.p 6 0 0, [z34, .rw .next .ro, .rw .int .ro, z33], [.rw .next .app, .rw .int .app, .bx [.m 7, .m 8, .b], .mx false [.int .i64] false .bool, .mx false [.int .i64] false .bool]⟩ k b c d e m h i))
def z36 : ShO S := .bx [.i .i64, .st, .st, .t .expr, .i .i64, .t .act, .t .act, .i .i64]
noncomputable def effect_rows_acts_l3_b (F : Fam_effect_rows_inner) {R : Type} (N : Nat) (v_81 : List Act) (v_82 v_83 v_84 : Int) (r_86 r_87 r_88 : List (List UInt8)) (r_89 : List Node) (o_91 : List Next) (o_92 : List Int) (a_102 : Int) (a_103 a_104 : List UInt8) (a_105 : List Expr) (a_106 : Int) (a_107 a_108 : List Act) (a_109 : Int) (kp0 : Bool → (List (List Sc × Int × Nat)) → Nat → Bool → (List (List Sc × Bool × Nat)) → Nat → (List Next) → (List Int) → (List (List Sc × Bool × Nat)) → Nat → Option R) (rec : Int → Bool → (List (List Sc × Int × Nat)) → Nat → Bool → (List (List Sc × Bool × Nat)) → Nat → (List Next) → (List Int) → (List (List Sc × Bool × Nat)) → Nat → Option R) (v_85 : Int) (r_90 : Bool) (o_93 : List (List Sc × Int × Nat)) (o_94 : Nat) (b_95 : Bool) (o_96 : List (List Sc × Bool × Nat)) (o_97 : Nat) (o_98 : List Next) (o_99 : List Int) (o_100 : List (List Sc × Bool × Nat)) (o_101 : Nat) : Option R :=
 if (decide (v_85 < v_84)) = true then
  (F.effect_rows_acts _ a_107 r_86 r_87 r_88 r_89 r_90 o_98 o_99 o_93 o_94 b_95 o_100 o_101 o_96 o_97 (fun r110 r111 r112 r113 r114 r115 r116 r117 r118 r119 =>
 rec (IntKind.wrap .i64 (v_85 + 1)) r110 r111 r112 r113 r114 r115 r116 r117 r118 r119))
 else
  (kp0 r_90 o_93 o_94 b_95 o_96 o_97 o_98 o_99 o_100 o_101)
noncomputable def effect_rows_acts_l3 (F : Fam_effect_rows_inner) {R : Type} (N : Nat) (v_81 : List Act) (v_82 v_83 v_84 : Int) (r_86 r_87 r_88 : List (List UInt8)) (r_89 : List Node) (o_91 : List Next) (o_92 : List Int) (a_102 : Int) (a_103 a_104 : List UInt8) (a_105 : List Expr) (a_106 : Int) (a_107 a_108 : List Act) (a_109 : Int) (kp0 : Bool → (List (List Sc × Int × Nat)) → Nat → Bool → (List (List Sc × Bool × Nat)) → Nat → (List Next) → (List Int) → (List (List Sc × Bool × Nat)) → Nat → Option R) : Nat → Int → Bool → (List (List Sc × Int × Nat)) → Nat → Bool → (List (List Sc × Bool × Nat)) → Nat → (List Next) → (List Int) → (List (List Sc × Bool × Nat)) → Nat → Option R
 | 0 => fun _ _ _ _ _ _ _ _ _ _ _ => none
 | n + 1 => fun v_85 r_90 o_93 o_94 b_95 o_96 o_97 o_98 o_99 o_100 o_101 => effect_rows_acts_l3_b F N v_81 v_82 v_83 v_84 r_86 r_87 r_88 r_89 o_91 o_92 a_102 a_103 a_104 a_105 a_106 a_107 a_108 a_109 kp0 (effect_rows_acts_l3 F N v_81 v_82 v_83 v_84 r_86 r_87 r_88 r_89 o_91 o_92 a_102 a_103 a_104 a_105 a_106 a_107 a_108 a_109 kp0 n) v_85 r_90 o_93 o_94 b_95 o_96 o_97 o_98 o_99 o_100 o_101
noncomputable def effect_rows_acts_c6 (F : Fam_effect_rows_inner) {R : Type} (N : Nat) (v_27 : List Act) (v_28 v_29 : Int) (r_30 r_31 r_32 : List (List UInt8)) (r_33 : List Node) (r_34 : Bool) (o_35 : List Next) (o_36 : List Int) (o_37 : List (List Sc × Int × Nat)) (o_38 : Nat) (b_39 : Bool) (o_40 : List (List Sc × Bool × Nat)) (o_41 : Nat) (o_42 : List Next) (o_43 : List Int) (o_44 : List (List Sc × Bool × Nat)) (o_45 : Nat) (a_46 : Int) (a_47 a_48 : List UInt8) (a_49 : List Expr) (a_50 : Int) (a_51 a_52 : List Act) (a_53 : Int) (kp0 : Bool → (List (List Sc × Int × Nat)) → Nat → Bool → (List (List Sc × Bool × Nat)) → Nat → (List Next) → (List Int) → (List (List Sc × Bool × Nat)) → Nat → Option R) : Option R :=
 if (a_46 == 2) = true then
  (effect_rows_mark N (-1) a_48 r_30 r_31 r_32 r_33 r_34 o_42 o_43 o_37 o_38 b_39 o_44 o_45 o_40 o_41 (fun r54 r55 r56 r57 r58 r59 r60 r61 =>
  kp0 r54 r55 r56 r57 o_40 o_41 r58 r59 r60 r61))
 else
  (if (a_46 == 3) = true then
   (slices_Index_string N r_31 a_47 (fun r62 =>
   effect_rows_mark N r62 a_48 r_30 r_31 r_32 r_33 r_34 o_42 o_43 o_37 o_38 b_39 o_44 o_45 o_40 o_41 (fun r63 r64 r65 r66 r67 r68 r69 r70 =>
   kp0 r63 r64 r65 r66 o_40 o_41 r67 r68 r69 r70)))
  else
   (if (a_46 == 6) = true then
    (F.effect_rows_choice _ a_46 a_47 a_48 a_49 a_50 a_51 a_52 a_53 r_30 r_31 r_32 r_33 r_34 o_42 o_43 o_37 o_38 b_39 o_44 o_45 o_40 o_41 (fun r71 r72 r73 r74 r75 r76 r77 r78 r79 r80 =>
    kp0 r71 r72 r73 r74 r75 r76 r77 r78 r79 r80))
   else
    (if (a_46 == 7) = true then
     (effect_rows_acts_l3 F N v_27 v_28 v_29 (if (16 < a_50) then 16 else a_50) r_30 r_31 r_32 r_33 o_35 o_36 a_46 a_47 a_48 a_49 a_50 a_51 a_52 a_53 (fun y120 y121 y122 y123 y124 y125 y126 y127 y128 y129 =>
     kp0 y120 y121 y122 y123 y124 y125 y126 y127 y128 y129) N 0 r_34 o_37 o_38 b_39 o_40 o_41 o_42 o_43 o_44 o_45)
    else
     (kp0 r_34 o_37 o_38 b_39 o_40 o_41 o_42 o_43 o_44 o_45))))
noncomputable def effect_rows_acts_l0_b (F : Fam_effect_rows_inner) {R : Type} (N : Nat) (v_1 : List Act) (v_2 : Int) (r_4 r_5 r_6 : List (List UInt8)) (r_7 : List Node) (o_9 : List Next) (o_10 : List Int) (kp0 kp1 : Bool → (List (List Sc × Int × Nat)) → Nat → Bool → (List (List Sc × Bool × Nat)) → Nat → (List Next) → (List Int) → (List (List Sc × Bool × Nat)) → Nat → Option R) (rec : Int → Bool → (List (List Sc × Int × Nat)) → Nat → Bool → (List (List Sc × Bool × Nat)) → Nat → (List Next) → (List Int) → (List (List Sc × Bool × Nat)) → Nat → Option R) (v_3 : Int) (r_8 : Bool) (o_11 : List (List Sc × Int × Nat)) (o_12 : Nat) (b_13 : Bool) (o_14 : List (List Sc × Bool × Nat)) (o_15 : Nat) (o_16 : List Next) (o_17 : List Int) (o_18 : List (List Sc × Bool × Nat)) (o_19 : Nat) : Option R :=
 if (decide (v_3 < v_2)) = true then
  ((at? v_1 v_3).bind fun e20 =>
 if r_8 = true then
  (kp1 r_8 o_11 o_12 b_13 o_14 o_15 o_16 o_17 o_18 o_19)
 else
  ((ifB (e20.Kind == 4) false (slices_ContainsFunc_Expr N e20.X (fun r21 =>
 some r21)) (some true)).bind fun c22 =>
 if c22 = true then
  (effect_rows_fail N r_4 r_5 r_6 r_7 r_8 o_16 o_17 o_11 o_12 b_13 o_18 o_19 o_14 o_15 (fun r23 r24 r25 r26 =>
  effect_rows_acts_c6 F N v_1 v_2 v_3 r_4 r_5 r_6 r_7 r23 o_9 o_10 o_11 o_12 r24 r25 r26 o_16 o_17 o_18 o_19 e20.Kind e20.Name e20.Event e20.X e20.N e20.Then e20.Else e20.At (fun y130 y131 y132 y133 y134 y135 y136 y137 y138 y139 =>
  rec (IntKind.wrap .i64 (v_3 + 1)) y130 y131 y132 y133 y134 y135 y136 y137 y138 y139)))
 else
  (effect_rows_acts_c6 F N v_1 v_2 v_3 r_4 r_5 r_6 r_7 r_8 o_9 o_10 o_11 o_12 b_13 o_14 o_15 o_16 o_17 o_18 o_19 e20.Kind e20.Name e20.Event e20.X e20.N e20.Then e20.Else e20.At (fun y140 y141 y142 y143 y144 y145 y146 y147 y148 y149 =>
  rec (IntKind.wrap .i64 (v_3 + 1)) y140 y141 y142 y143 y144 y145 y146 y147 y148 y149))))
 else
  (kp0 r_8 o_11 o_12 b_13 o_14 o_15 o_16 o_17 o_18 o_19)
noncomputable def effect_rows_acts_l0 (F : Fam_effect_rows_inner) {R : Type} (N : Nat) (v_1 : List Act) (v_2 : Int) (r_4 r_5 r_6 : List (List UInt8)) (r_7 : List Node) (o_9 : List Next) (o_10 : List Int) (kp0 kp1 : Bool → (List (List Sc × Int × Nat)) → Nat → Bool → (List (List Sc × Bool × Nat)) → Nat → (List Next) → (List Int) → (List (List Sc × Bool × Nat)) → Nat → Option R) : Nat → Int → Bool → (List (List Sc × Int × Nat)) → Nat → Bool → (List (List Sc × Bool × Nat)) → Nat → (List Next) → (List Int) → (List (List Sc × Bool × Nat)) → Nat → Option R
 | 0 => fun _ _ _ _ _ _ _ _ _ _ _ => none
 | n + 1 => fun v_3 r_8 o_11 o_12 b_13 o_14 o_15 o_16 o_17 o_18 o_19 => effect_rows_acts_l0_b F N v_1 v_2 r_4 r_5 r_6 r_7 o_9 o_10 kp0 kp1 (effect_rows_acts_l0 F N v_1 v_2 r_4 r_5 r_6 r_7 o_9 o_10 kp0 kp1 n) v_3 r_8 o_11 o_12 b_13 o_14 o_15 o_16 o_17 o_18 o_19
noncomputable def effect_rows_acts_d (F : Fam_effect_rows_inner) {R : Type} (N : Nat) (l : List Act) (Vars Ports Timers : List (List UInt8)) (Nodes : List Node) (many : Bool) (l_2 : List Next) (long : List Int) (known_L : List (List Sc × Int × Nat)) (known_cl : Nat) (both : Bool) (t_L : List (List Sc × Bool × Nat)) (t_cl : Nat) (f_L : List (List Sc × Bool × Nat)) (f_cl : Nat) (k0 : Bool → (List (List Sc × Int × Nat)) → Nat → Bool → (List (List Sc × Bool × Nat)) → Nat → (List Next) → (List Int) → (List (List Sc × Bool × Nat)) → Nat → Option R) : Option R :=
 effect_rows_acts_l0 F N l ((l.length : Nat) : Int) Vars Ports Timers Nodes l_2 long (fun y150 y151 y152 y153 y154 y155 y156 y157 y158 y159 =>
 k0 y150 y151 y152 y153 y154 y155 y156 y157 y158 y159)
  (fun y160 y161 y162 y163 y164 y165 y166 y167 y168 y169 =>
 k0 y160 y161 y162 y163 y164 y165 y166 y167 y168 y169) N 0 many known_L known_cl both f_L f_cl l_2 long t_L t_cl
noncomputable def effect_rows_acts_D (F : Fam_effect_rows_inner) (hF : Fam_effect_rows_inner_ok F) (N : Nat) : FD E0 := { f := 34, fn := Tryz.f34, q := effect_rows_acts_q, loops := [{ cur := 3, live := [0, 1, 7, 8, 9, 10, 65, 66], fix := [(⟨0, [0]⟩, .fresh .next .app), (⟨0, [1]⟩, .fresh .int .app), (⟨1, [0]⟩, .fresh .int .own)], out := fun | .exit 3 => ([0, 1, 8, 9, 10], []) | _ => ([], []), q := ⟨[.p 0 0 0, .p 4 0 0, .p 10 0 0, .t .act, .i .i64, .i .i64, .i .i64, .i .i64], [z35, .rw .next .ro, .rw .int .ro, z33, .bx [.m 9, .m 6, .b], .g, .mx false [.int .i64] false .bool, .rw .next .app, .rw .int .app, .mx false [.int .i64] false .bool, z36]⟩, G := fun R K n a b c d e g h i j l m o p q s t u v w x y z a1 b1 c1 d1 e1 g1 h1 => effect_rows_acts_l3 F N a b c d g h i j m o z a1 b1 c1 d1 e1 g1 h1 (fun i1 => pK ⟨[.p 0 0 0, .p 4 0 0, .t .act, .i .i64, .i .i64], [z35, .rw .next .ro, .rw .int .ro, z33, .bx [.m 9, .m 6, .b], .g, .mx false [.int .i64] false .bool, .rw .next .app, .rw .int .app, .mx false [.int .i64] false .bool]⟩ (K (.exit 3)) a b c g h i j i1 m o) n e l p q s t u v w x y, B := fun R K rec a b c d e g h i j l m o p q s t u v w x y z a1 b1 c1 d1 e1 g1 h1 => effect_rows_acts_l3_b F N a b c d g h i j m o z a1 b1 c1 d1 e1 g1 h1 (fun i1 => pK ⟨[.p 0 0 0, .p 4 0 0, .t .act, .i .i64, .i .i64], [z35, .rw .next .ro, .rw .int .ro, z33, .bx [.m 9, .m 6, .b], .g, .mx false [.int .i64] false .bool, .rw .next .app, .rw .int .app, .mx false [.int .i64] false .bool]⟩ (K (.exit 3)) a b c g h i j i1 m o) (fun e l p q s t u v w x y => rec a b c d e g h i j l m o p q s t u v w x y z a1 b1 c1 d1 e1 g1 h1) e l p q s t u v w x y }, { cur := 0, live := [0, 1, 8, 9, 10], fix := [(⟨0, [0]⟩, .fresh .next .app), (⟨0, [1]⟩, .fresh .int .app), (⟨1, [0]⟩, .fresh .int .own)], out := fun | .exit 0 => ([], []) | .ret => ([], []) | _ => ([], []), q := ⟨[.p 0 0 0, .p 4 0 0, .t .act, .i .i64, .i .i64], [z35, .rw .next .ro, .rw .int .ro, z33, .bx [.m 9, .m 6, .b], .g, .mx false [.int .i64] false .bool, .rw .next .app, .rw .int .app, .mx false [.int .i64] false .bool]⟩, G := fun R K n a b c d e g h i j l m o p q s t u v w => effect_rows_acts_l0 F N a b d e g h j l (fun x => pK ⟨[], [z35, .rw .next .ro, .rw .int .ro, z33, .bx [.m 9, .m 6, .b], .g, .mx false [.int .i64] false .bool, .rw .next .app, .rw .int .app, .mx false [.int .i64] false .bool]⟩ (K (.exit 0)) d e g h x j l) (fun x => pK ⟨[], [z35, .rw .next .ro, .rw .int .ro, z33, .bx [.m 9, .m 6, .b], .g, .mx false [.int .i64] false .bool, .rw .next .app, .rw .int .app, .mx false [.int .i64] false .bool]⟩ (K .ret) d e g h x j l) n c i m o p q s t u v w, B := fun R K rec a b c d e g h i j l m o p q s t u v w => effect_rows_acts_l0_b F N a b d e g h j l (fun x => pK ⟨[], [z35, .rw .next .ro, .rw .int .ro, z33, .bx [.m 9, .m 6, .b], .g, .mx false [.int .i64] false .bool, .rw .next .app, .rw .int .app, .mx false [.int .i64] false .bool]⟩ (K (.exit 0)) d e g h x j l) (fun x => pK ⟨[], [z35, .rw .next .ro, .rw .int .ro, z33, .bx [.m 9, .m 6, .b], .g, .mx false [.int .i64] false .bool, .rw .next .app, .rw .int .app, .mx false [.int .i64] false .bool]⟩ (K .ret) d e g h x j l) (fun c i m o p q s t u v w => rec a b c d e g h i j l m o p q s t u v w) c i m o p q s t u v w }], cuts := [{ key := 6, live := [0, 1, 7, 8, 9, 10], fix := [(⟨0, [0]⟩, .fresh .next .app), (⟨0, [1]⟩, .fresh .int .app), (⟨1, [0]⟩, .fresh .int .own)], out := fun | .normal => ([0, 1, 8, 9, 10], []) | _ => ([], []), q := ⟨[.p 0 0 0, .p 4 0 0, .p 10 0 0, .t .act, .i .i64, .i .i64], [z35, .rw .next .ro, .rw .int .ro, z33, .bx [.m 9, .m 6, .b], .g, .mx false [.int .i64] false .bool, .rw .next .app, .rw .int .app, .mx false [.int .i64] false .bool, z36]⟩, G := fun R K a b c d e g h i j l m o p q s t u v w x y z a1 b1 c1 d1 e1 => effect_rows_acts_c6 F N a b c d e g h i j l m o p q s t u v w x y z a1 b1 c1 d1 e1 (fun g1 => pK ⟨[.p 0 0 0, .p 4 0 0, .t .act, .i .i64, .i .i64], [z35, .rw .next .ro, .rw .int .ro, z33, .bx [.m 9, .m 6, .b], .g, .mx false [.int .i64] false .bool, .rw .next .app, .rw .int .app, .mx false [.int .i64] false .bool]⟩ (K .normal) a b c d e g h g1 j l) }], g := [slices_ContainsFunc_Expr_S N, slices_Index_string_S N], gm := [⟨effect_rows_acts_C F, hF.effect_rows_acts⟩, effect_rows_fail_S N, effect_rows_mark_S N, ⟨effect_rows_choice_C F, hF.effect_rows_choice⟩], nd := true, dr := [(10, [0, 1, 2, 3, 4, 5, 6, 7, 8, 9, 10, 11, 12, 13])] }
theorem effect_rows_acts_okF (F : Fam_effect_rows_inner) (hF : Fam_effect_rows_inner_ok F) (N : Nat) : Ct.okm E0 ⟨(effect_rows_acts_D F hF N).f, (effect_rows_acts_D F hF N).q, fun R k a b c d e g h i j l m o p q s => effect_rows_acts_d F N a b c d e g h i j l m o p q s (fun t => oK ⟨.tp [], [z35, .rw .next .ro, .rw .int .ro, z33, .bx [.m 9, .m 6, .b], .g, .mx false [.int .i64] false .bool], [.rw .next .app, .rw .int .app, .mx false [.int .i64] false .bool]⟩ k b c d e t h i)⟩ := FD.ctm e0 (effect_rows_acts_D F hF N) N (fun R k a b c d e g h i j l m o p q s => effect_rows_acts_d F N a b c d e g h i j l m o p q s (fun t => oK ⟨.tp [], [z35, .rw .next .ro, .rw .int .ro, z33, .bx [.m 9, .m 6, .b], .g, .mx false [.int .i64] false .bool], [.rw .next .app, .rw .int .app, .mx false [.int .i64] false .bool]⟩ k b c d e t h i))
noncomputable def effect_rows_choice_d (F : Fam_effect_rows_inner) {R : Type} (N : Nat) (Kind : Int) (Name Event : List UInt8) (X : List Expr) (N_ : Int) (Then Else : List Act) (At : Int) (Vars Ports Timers : List (List UInt8)) (Nodes : List Node) (many : Bool) (l : List Next) (long : List Int) (known_L : List (List Sc × Int × Nat)) (known_cl : Nat) (both : Bool) (t_L : List (List Sc × Bool × Nat)) (t_cl : Nat) (f_L : List (List Sc × Bool × Nat)) (f_cl : Nat) (k0 : Bool → (List (List Sc × Int × Nat)) → Nat → Bool → (List (List Sc × Bool × Nat)) → Nat → (List Next) → (List Int) → (List (List Sc × Bool × Nat)) → Nat → Option R) : Option R :=
 F.effect_rows_inner _ Then Vars Ports Timers Nodes many l long known_L known_cl (fun r1 r2 r3 r4 r5 r6 r7 r8 r9 r10 =>
 F.effect_rows_inner _ Else Vars Ports Timers Nodes r1 r4 r5 r2 r3 (fun r11 r12 r13 r14 r15 r16 r17 r18 r19 r20 =>
 effect_rows_then N Vars Ports Timers Nodes r11 r14 r15 r12 r13 ([] : List (List Sc × Bool × Nat)) 0 t_L t_cl r7 r8 (fun r21 r22 r23 r24 r25 r26 r27 =>
 effect_rows_then N Vars Ports Timers Nodes r21 r26 r27 r22 r23 r24 r25 t_L t_cl r17 r18 (fun r28 r29 r30 r31 r32 r33 r34 =>
 effect_rows_then N Vars Ports Timers Nodes r28 r33 r34 r29 r30 f_L f_cl t_L t_cl r9 r10 (fun r35 r36 r37 r38 r39 r40 r41 =>
 effect_rows_then N Vars Ports Timers Nodes r35 r40 r41 r36 r37 r38 r39 t_L t_cl r19 r20 (fun r42 r43 r44 r45 r46 r47 r48 =>
 k0 r42 r43 r44 false r45 r46 r47 r48 r31 r32))))))
noncomputable def effect_rows_choice_D (F : Fam_effect_rows_inner) (hF : Fam_effect_rows_inner_ok F) (N : Nat) : FD E0 := { f := 59, fn := Tryz.f59, q := effect_rows_choice_q, gm := [⟨effect_rows_inner_C F, hF.effect_rows_inner⟩, effect_rows_then_S N], nd := true, dr := [(1, [0, 1, 2, 4, 5, 6, 3, 7, 8, 9]), (3, [0, 1, 2, 3, 4, 5, 6, 7, 8, 9, 10]), (4, [0, 1, 2, 3, 4, 5, 6, 7, 8, 9, 10]), (5, [0, 1, 2, 3, 4, 5, 6, 7, 8, 9, 10, 11, 12, 13]), (6, [0, 1, 2, 3, 4, 5, 6, 7, 8, 9, 10, 11, 12, 13])] }
theorem effect_rows_choice_okF (F : Fam_effect_rows_inner) (hF : Fam_effect_rows_inner_ok F) (N : Nat) : Ct.okm E0 ⟨(effect_rows_choice_D F hF N).f, (effect_rows_choice_D F hF N).q, fun R k a b c d e g h i j l m o p q s t u v w x y z => effect_rows_choice_d F N a b c d e g h i j l m o p q s t u v w x y z (fun a1 b1 c1 d1 => oK ⟨.tp [], [z35, .rw .next .ro, .rw .int .ro, z33, .bx [.m 9, .m 6, .b], .mx false [.int .i64] false .bool, .mx false [.int .i64] false .bool], [.rw .next .app, .rw .int .app, .mx false [.int .i64] false .bool]⟩ k j l m o a1 q s b1 c1 d1 w x)⟩ := FD.ctm e0 (effect_rows_choice_D F hF N) N (fun R k a b c d e g h i j l m o p q s t u v w x y z => effect_rows_choice_d F N a b c d e g h i j l m o p q s t u v w x y z (fun a1 b1 c1 d1 => oK ⟨.tp [], [z35, .rw .next .ro, .rw .int .ro, z33, .bx [.m 9, .m 6, .b], .mx false [.int .i64] false .bool, .mx false [.int .i64] false .bool], [.rw .next .app, .rw .int .app, .mx false [.int .i64] false .bool]⟩ k j l m o a1 q s b1 c1 d1 w x))
noncomputable def Fam_effect_rows_inner_next (F : Fam_effect_rows_inner) (N : Nat) : Fam_effect_rows_inner where
 effect_rows_inner := fun R l Vars Ports Timers Nodes many l_2 long known_L known_cl k0 => effect_rows_inner_d F N l Vars Ports Timers Nodes many l_2 long known_L known_cl k0
 effect_rows_acts := fun R l Vars Ports Timers Nodes many l_2 long known_L known_cl both t_L t_cl f_L f_cl k0 => effect_rows_acts_d F N l Vars Ports Timers Nodes many l_2 long known_L known_cl both t_L t_cl f_L f_cl k0
 effect_rows_choice := fun R Kind Name Event X N_ Then Else At Vars Ports Timers Nodes many l long known_L known_cl both t_L t_cl f_L f_cl k0 => effect_rows_choice_d F N Kind Name Event X N_ Then Else At Vars Ports Timers Nodes many l long known_L known_cl both t_L t_cl f_L f_cl k0
noncomputable def Fam_effect_rows_inner_at (N : Nat) : Nat → Fam_effect_rows_inner
 | 0 => { effect_rows_inner := fun _ _ _ _ _ _ _ _ _ _ _ _ => none, effect_rows_acts := fun _ _ _ _ _ _ _ _ _ _ _ _ _ _ _ _ _ => none, effect_rows_choice := fun _ _ _ _ _ _ _ _ _ _ _ _ _ _ _ _ _ _ _ _ _ _ _ _ => none }
 | d + 1 => Fam_effect_rows_inner_next (Fam_effect_rows_inner_at N d) N
theorem Fam_effect_rows_inner_at_ok (N : Nat) : ∀ d, Fam_effect_rows_inner_ok (Fam_effect_rows_inner_at N d)
 | 0 => { effect_rows_inner := Ct.okm_none, effect_rows_acts := Ct.okm_none, effect_rows_choice := Ct.okm_none }
 | d + 1 => { effect_rows_inner := effect_rows_inner_okF _ (Fam_effect_rows_inner_at_ok N d) N, effect_rows_acts := effect_rows_acts_okF _ (Fam_effect_rows_inner_at_ok N d) N, effect_rows_choice := effect_rows_choice_okF _ (Fam_effect_rows_inner_at_ok N d) N }
noncomputable def effect_rows_inner {R : Type} (N : Nat) (l : List Act) (Vars Ports Timers : List (List UInt8)) (Nodes : List Node) (many : Bool) (l_2 : List Next) (long : List Int) (known_L : List (List Sc × Int × Nat)) (known_cl : Nat) (k0 : Bool → (List (List Sc × Int × Nat)) → Nat → (List Next) → (List Int) → Bool → (List (List Sc × Bool × Nat)) → Nat → (List (List Sc × Bool × Nat)) → Nat → Option R) : Option R := (Fam_effect_rows_inner_at N N).effect_rows_inner R l Vars Ports Timers Nodes many l_2 long known_L known_cl k0
theorem effect_rows_inner_at {R : Type} (N d : Nat) (l : List Act) (Vars Ports Timers : List (List UInt8)) (Nodes : List Node) (many : Bool) (l_2 : List Next) (long : List Int) (known_L : List (List Sc × Int × Nat)) (known_cl : Nat) (k0 : Bool → (List (List Sc × Int × Nat)) → Nat → (List Next) → (List Int) → Bool → (List (List Sc × Bool × Nat)) → Nat → (List (List Sc × Bool × Nat)) → Nat → Option R) : (Fam_effect_rows_inner_at N (d + 1)).effect_rows_inner R l Vars Ports Timers Nodes many l_2 long known_L known_cl k0 = effect_rows_inner_d (Fam_effect_rows_inner_at N d) N l Vars Ports Timers Nodes many l_2 long known_L known_cl k0 := rfl
noncomputable def effect_rows_inner_S (N : Nat) : OCM E0 := ⟨effect_rows_inner_C (Fam_effect_rows_inner_at N N), (Fam_effect_rows_inner_at_ok N N).effect_rows_inner⟩
noncomputable def effect_rows_acts {R : Type} (N : Nat) (l : List Act) (Vars Ports Timers : List (List UInt8)) (Nodes : List Node) (many : Bool) (l_2 : List Next) (long : List Int) (known_L : List (List Sc × Int × Nat)) (known_cl : Nat) (both : Bool) (t_L : List (List Sc × Bool × Nat)) (t_cl : Nat) (f_L : List (List Sc × Bool × Nat)) (f_cl : Nat) (k0 : Bool → (List (List Sc × Int × Nat)) → Nat → Bool → (List (List Sc × Bool × Nat)) → Nat → (List Next) → (List Int) → (List (List Sc × Bool × Nat)) → Nat → Option R) : Option R := (Fam_effect_rows_inner_at N N).effect_rows_acts R l Vars Ports Timers Nodes many l_2 long known_L known_cl both t_L t_cl f_L f_cl k0
theorem effect_rows_acts_at {R : Type} (N d : Nat) (l : List Act) (Vars Ports Timers : List (List UInt8)) (Nodes : List Node) (many : Bool) (l_2 : List Next) (long : List Int) (known_L : List (List Sc × Int × Nat)) (known_cl : Nat) (both : Bool) (t_L : List (List Sc × Bool × Nat)) (t_cl : Nat) (f_L : List (List Sc × Bool × Nat)) (f_cl : Nat) (k0 : Bool → (List (List Sc × Int × Nat)) → Nat → Bool → (List (List Sc × Bool × Nat)) → Nat → (List Next) → (List Int) → (List (List Sc × Bool × Nat)) → Nat → Option R) : (Fam_effect_rows_inner_at N (d + 1)).effect_rows_acts R l Vars Ports Timers Nodes many l_2 long known_L known_cl both t_L t_cl f_L f_cl k0 = effect_rows_acts_d (Fam_effect_rows_inner_at N d) N l Vars Ports Timers Nodes many l_2 long known_L known_cl both t_L t_cl f_L f_cl k0 := rfl
noncomputable def effect_rows_choice {R : Type} (N : Nat) (Kind : Int) (Name Event : List UInt8) (X : List Expr) (N_ : Int) (Then Else : List Act) (At : Int) (Vars Ports Timers : List (List UInt8)) (Nodes : List Node) (many : Bool) (l : List Next) (long : List Int) (known_L : List (List Sc × Int × Nat)) (known_cl : Nat) (both : Bool) (t_L : List (List Sc × Bool × Nat)) (t_cl : Nat) (f_L : List (List Sc × Bool × Nat)) (f_cl : Nat) (k0 : Bool → (List (List Sc × Int × Nat)) → Nat → Bool → (List (List Sc × Bool × Nat)) → Nat → (List Next) → (List Int) → (List (List Sc × Bool × Nat)) → Nat → Option R) : Option R := (Fam_effect_rows_inner_at N N).effect_rows_choice R Kind Name Event X N_ Then Else At Vars Ports Timers Nodes many l long known_L known_cl both t_L t_cl f_L f_cl k0
theorem effect_rows_choice_at {R : Type} (N d : Nat) (Kind : Int) (Name Event : List UInt8) (X : List Expr) (N_ : Int) (Then Else : List Act) (At : Int) (Vars Ports Timers : List (List UInt8)) (Nodes : List Node) (many : Bool) (l : List Next) (long : List Int) (known_L : List (List Sc × Int × Nat)) (known_cl : Nat) (both : Bool) (t_L : List (List Sc × Bool × Nat)) (t_cl : Nat) (f_L : List (List Sc × Bool × Nat)) (f_cl : Nat) (k0 : Bool → (List (List Sc × Int × Nat)) → Nat → Bool → (List (List Sc × Bool × Nat)) → Nat → (List Next) → (List Int) → (List (List Sc × Bool × Nat)) → Nat → Option R) : (Fam_effect_rows_inner_at N (d + 1)).effect_rows_choice R Kind Name Event X N_ Then Else At Vars Ports Timers Nodes many l long known_L known_cl both t_L t_cl f_L f_cl k0 = effect_rows_choice_d (Fam_effect_rows_inner_at N d) N Kind Name Event X N_ Then Else At Vars Ports Timers Nodes many l long known_L known_cl both t_L t_cl f_L f_cl k0 := rfl
noncomputable def effect_copied_l0_b {R : Type} (N : Nat) (o_1 : List (List Sc × Bool × Nat)) (o_2 v_5 : Nat) (kp0 : (List (List Sc × Bool × Nat)) → Nat → Option R) (rec : (List (List Sc × Bool × Nat)) → Nat → (List Nat) → Nat → Option R) (out_3 : List (List Sc × Bool × Nat)) (out_4 : Nat) (v_6 : List Nat) (v_7 : Nat) : Option R :=
 nextC v_5 v_6 v_7 o_1 (kp0 out_3 out_4) fun n8 =>
 if o_2 = o_2 then (match findB n8.2.2 o_1 with
 | some en9 => (rec (updM [.int .i64 (scI en9.1)] true out_4 out_3) (if (findM [.int .i64 (scI en9.1)] out_3).isSome = true then out_4 else out_4 + 1) (n8.2.2 :: v_6) o_2)
 | none => none) else none
noncomputable def effect_copied_l0 {R : Type} (N : Nat) (o_1 : List (List Sc × Bool × Nat)) (o_2 v_5 : Nat) (kp0 : (List (List Sc × Bool × Nat)) → Nat → Option R) : Nat → (List (List Sc × Bool × Nat)) → Nat → (List Nat) → Nat → Option R
 | 0 => fun _ _ _ _ => none
 | n + 1 => fun out_3 out_4 v_6 v_7 => effect_copied_l0_b N o_1 o_2 v_5 kp0 (effect_copied_l0 N o_1 o_2 v_5 kp0 n) out_3 out_4 v_6 v_7
noncomputable def effect_copied {R : Type} (N : Nat) (s_L : List (List Sc × Bool × Nat)) (s_cl : Nat) (k0 : (List (List Sc × Bool × Nat)) → Nat → Option R) : Option R :=
 effect_copied_l0 N s_L s_cl s_cl (fun y10 y11 =>
 k0 y10 y11) N ([] : List (List Sc × Bool × Nat)) 0 [] s_cl
noncomputable def effect_copied_D (N : Nat) : FD E0 := { f := 36, fn := Tryz.f36, q := ⟨[.m 0], [.mx false [.int .i64] false .bool]⟩, loops := [{ cur := 0, live := [3, 7], out := fun | .exit 0 => ([3], []) | _ => ([], []), q := ⟨[.m 1, .p 2 0 0], [.mx false [.int .i64] false .bool, .mx false [.int .i64] false .bool, .it 0]⟩, G := fun R K n a b c d e g h => effect_copied_l0 N a b e (pK ⟨[.m 1], [.mx false [.int .i64] false .bool, .mx false [.int .i64] false .bool]⟩ (K (.exit 0)) a b) n c d g h, B := fun R K rec a b c d e g h => effect_copied_l0_b N a b e (pK ⟨[.m 1], [.mx false [.int .i64] false .bool, .mx false [.int .i64] false .bool]⟩ (K (.exit 0)) a b) (fun c d g h => rec a b c d e g h) c d g h }], nd := true }
noncomputable def effect_copied_S (N : Nat) : OCM E0 := ⟨_, FD.ctm e0 (effect_copied_D N) N (fun R k a b => effect_copied N a b (oK ⟨.m 1, [.mx false [.int .i64] false .bool], [.mx false [.int .i64] false .bool]⟩ k a b))⟩
noncomputable def effect_rows_cut_l4_b {R : Type} (N : Nat) (v_29 v_30 : Nat) (v_31 v_32 : Int) (r_33 r_34 r_35 : List (List UInt8)) (r_36 : List Node) (o_38 : List Next) (o_39 : List Int) (o_40 : List (List Sc × Int × Nat)) (o_41 : Nat) (b_42 : Bool) (o_43 : List (List Sc × Bool × Nat)) (o_44 : Nat) (o_47 : List (List Sc × Bool × Nat)) (o_48 v_49 : Nat) (v_50 : List Nat) (v_51 : Nat) (kp0 : Bool → (List (List Sc × Bool × Nat)) → Nat → Option R) (rec : Int → Bool → (List (List Sc × Bool × Nat)) → Nat → Option R) (row_28 : Int) (r_37 : Bool) (o_45 : List (List Sc × Bool × Nat)) (o_46 : Nat) : Option R :=
 if (decide (row_28 > 0)) = true then
  (effect_rows_put N row_28 r_33 r_34 r_35 r_36 r_37 o_38 o_39 o_40 o_41 o_45 o_46 (fun r52 r53 r54 =>
 if (0 : Int) ≤ row_28 ∧ row_28 < (o_38.length : Int) then (match o_38[row_28.toNat]? with
  | some e55 => (rec e55.row r52 r53 r54)
  | none => none) else none))
 else
  (kp0 r_37 o_45 o_46)
noncomputable def effect_rows_cut_l4 {R : Type} (N : Nat) (v_29 v_30 : Nat) (v_31 v_32 : Int) (r_33 r_34 r_35 : List (List UInt8)) (r_36 : List Node) (o_38 : List Next) (o_39 : List Int) (o_40 : List (List Sc × Int × Nat)) (o_41 : Nat) (b_42 : Bool) (o_43 : List (List Sc × Bool × Nat)) (o_44 : Nat) (o_47 : List (List Sc × Bool × Nat)) (o_48 v_49 : Nat) (v_50 : List Nat) (v_51 : Nat) (kp0 : Bool → (List (List Sc × Bool × Nat)) → Nat → Option R) : Nat → Int → Bool → (List (List Sc × Bool × Nat)) → Nat → Option R
 | 0 => fun _ _ _ _ => none
 | n + 1 => fun row_28 r_37 o_45 o_46 => effect_rows_cut_l4_b N v_29 v_30 v_31 v_32 r_33 r_34 r_35 r_36 o_38 o_39 o_40 o_41 b_42 o_43 o_44 o_47 o_48 v_49 v_50 v_51 kp0 (effect_rows_cut_l4 N v_29 v_30 v_31 v_32 r_33 r_34 r_35 r_36 o_38 o_39 o_40 o_41 b_42 o_43 o_44 o_47 o_48 v_49 v_50 v_51 kp0 n) row_28 r_37 o_45 o_46
noncomputable def effect_rows_cut_l2_b {R : Type} (N : Nat) (v_3 v_4 : Nat) (v_5 v_6 : Int) (r_7 r_8 r_9 : List (List UInt8)) (r_10 : List Node) (o_12 : List Next) (o_13 : List Int) (o_14 : List (List Sc × Int × Nat)) (o_15 : Nat) (b_16 : Bool) (o_17 : List (List Sc × Bool × Nat)) (o_18 : Nat) (o_21 : List (List Sc × Bool × Nat)) (o_22 v_23 : Nat) (kp0 : Bool → (List (List Sc × Bool × Nat)) → Nat → Option R) (rec : Bool → (List (List Sc × Bool × Nat)) → Nat → (List Nat) → Nat → Option R) (r_11 : Bool) (o_19 : List (List Sc × Bool × Nat)) (o_20 : Nat) (v_24 : List Nat) (v_25 : Nat) : Option R :=
 nextC v_23 v_24 v_25 o_17 (kp0 r_11 o_19 o_20) fun n26 =>
 if o_18 = o_18 then (match findB n26.2.2 o_17 with
 | some en27 => (effect_rows_cut_l4 N v_3 v_4 v_5 v_6 r_7 r_8 r_9 r_10 o_12 o_13 o_14 o_15 b_16 o_17 o_18 o_21 o_22 v_23 (n26.2.2 :: v_24) o_18 (fun y56 y57 y58 =>
 effect_rows_put N 0 r_7 r_8 r_9 r_10 y56 o_12 o_13 o_14 o_15 y57 y58 (fun r59 r60 r61 =>
 rec r59 r60 r61 (n26.2.2 :: v_24) o_18)) N (scI en27.1) r_11 o_19 o_20)
 | none => none) else none
noncomputable def effect_rows_cut_l2 {R : Type} (N : Nat) (v_3 v_4 : Nat) (v_5 v_6 : Int) (r_7 r_8 r_9 : List (List UInt8)) (r_10 : List Node) (o_12 : List Next) (o_13 : List Int) (o_14 : List (List Sc × Int × Nat)) (o_15 : Nat) (b_16 : Bool) (o_17 : List (List Sc × Bool × Nat)) (o_18 : Nat) (o_21 : List (List Sc × Bool × Nat)) (o_22 v_23 : Nat) (kp0 : Bool → (List (List Sc × Bool × Nat)) → Nat → Option R) : Nat → Bool → (List (List Sc × Bool × Nat)) → Nat → (List Nat) → Nat → Option R
 | 0 => fun _ _ _ _ _ => none
 | n + 1 => fun r_11 o_19 o_20 v_24 v_25 => effect_rows_cut_l2_b N v_3 v_4 v_5 v_6 r_7 r_8 r_9 r_10 o_12 o_13 o_14 o_15 b_16 o_17 o_18 o_21 o_22 v_23 kp0 (effect_rows_cut_l2 N v_3 v_4 v_5 v_6 r_7 r_8 r_9 r_10 o_12 o_13 o_14 o_15 b_16 o_17 o_18 o_21 o_22 v_23 kp0 n) r_11 o_19 o_20 v_24 v_25
noncomputable def effect_rows_cut_l1004_b {R : Type} (N : Nat) (v_91 v_92 : Nat) (v_93 v_94 : Int) (r_95 r_96 r_97 : List (List UInt8)) (r_98 : List Node) (o_100 : List Next) (o_101 : List Int) (o_102 : List (List Sc × Int × Nat)) (o_103 : Nat) (b_104 : Bool) (o_105 : List (List Sc × Bool × Nat)) (o_106 : Nat) (o_109 : List (List Sc × Bool × Nat)) (o_110 v_111 : Nat) (v_112 : List Nat) (v_113 : Nat) (kp0 : Bool → (List (List Sc × Bool × Nat)) → Nat → Option R) (rec : Int → Bool → (List (List Sc × Bool × Nat)) → Nat → Option R) (row_90 : Int) (r_99 : Bool) (o_107 : List (List Sc × Bool × Nat)) (o_108 : Nat) : Option R :=
 if (decide (row_90 > 0)) = true then
  (effect_rows_put N row_90 r_95 r_96 r_97 r_98 r_99 o_100 o_101 o_102 o_103 o_107 o_108 (fun r114 r115 r116 =>
 if (0 : Int) ≤ row_90 ∧ row_90 < (o_100.length : Int) then (match o_100[row_90.toNat]? with
  | some e117 => (rec e117.row r114 r115 r116)
  | none => none) else none))
 else
  (kp0 r_99 o_107 o_108)
noncomputable def effect_rows_cut_l1004 {R : Type} (N : Nat) (v_91 v_92 : Nat) (v_93 v_94 : Int) (r_95 r_96 r_97 : List (List UInt8)) (r_98 : List Node) (o_100 : List Next) (o_101 : List Int) (o_102 : List (List Sc × Int × Nat)) (o_103 : Nat) (b_104 : Bool) (o_105 : List (List Sc × Bool × Nat)) (o_106 : Nat) (o_109 : List (List Sc × Bool × Nat)) (o_110 v_111 : Nat) (v_112 : List Nat) (v_113 : Nat) (kp0 : Bool → (List (List Sc × Bool × Nat)) → Nat → Option R) : Nat → Int → Bool → (List (List Sc × Bool × Nat)) → Nat → Option R
 | 0 => fun _ _ _ _ => none
 | n + 1 => fun row_90 r_99 o_107 o_108 => effect_rows_cut_l1004_b N v_91 v_92 v_93 v_94 r_95 r_96 r_97 r_98 o_100 o_101 o_102 o_103 b_104 o_105 o_106 o_109 o_110 v_111 v_112 v_113 kp0 (effect_rows_cut_l1004 N v_91 v_92 v_93 v_94 r_95 r_96 r_97 r_98 o_100 o_101 o_102 o_103 b_104 o_105 o_106 o_109 o_110 v_111 v_112 v_113 kp0 n) row_90 r_99 o_107 o_108
noncomputable def effect_rows_cut_l1002_b {R : Type} (N : Nat) (v_65 v_66 : Nat) (v_67 v_68 : Int) (r_69 r_70 r_71 : List (List UInt8)) (r_72 : List Node) (o_74 : List Next) (o_75 : List Int) (o_76 : List (List Sc × Int × Nat)) (o_77 : Nat) (b_78 : Bool) (o_79 : List (List Sc × Bool × Nat)) (o_80 : Nat) (o_83 : List (List Sc × Bool × Nat)) (o_84 v_85 : Nat) (kp0 : Bool → (List (List Sc × Bool × Nat)) → Nat → Option R) (rec : Bool → (List (List Sc × Bool × Nat)) → Nat → (List Nat) → Nat → Option R) (r_73 : Bool) (o_81 : List (List Sc × Bool × Nat)) (o_82 : Nat) (v_86 : List Nat) (v_87 : Nat) : Option R :=
 nextC v_85 v_86 v_87 o_83 (kp0 r_73 o_81 o_82) fun n88 =>
 if o_84 = o_84 then (match findB n88.2.2 o_83 with
 | some en89 => (effect_rows_cut_l1004 N v_65 v_66 v_67 v_68 r_69 r_70 r_71 r_72 o_74 o_75 o_76 o_77 b_78 o_79 o_80 o_83 o_84 v_85 (n88.2.2 :: v_86) o_84 (fun y118 y119 y120 =>
 effect_rows_put N 0 r_69 r_70 r_71 r_72 y118 o_74 o_75 o_76 o_77 y119 y120 (fun r121 r122 r123 =>
 rec r121 r122 r123 (n88.2.2 :: v_86) o_84)) N (scI en89.1) r_73 o_81 o_82)
 | none => none) else none
noncomputable def effect_rows_cut_l1002 {R : Type} (N : Nat) (v_65 v_66 : Nat) (v_67 v_68 : Int) (r_69 r_70 r_71 : List (List UInt8)) (r_72 : List Node) (o_74 : List Next) (o_75 : List Int) (o_76 : List (List Sc × Int × Nat)) (o_77 : Nat) (b_78 : Bool) (o_79 : List (List Sc × Bool × Nat)) (o_80 : Nat) (o_83 : List (List Sc × Bool × Nat)) (o_84 v_85 : Nat) (kp0 : Bool → (List (List Sc × Bool × Nat)) → Nat → Option R) : Nat → Bool → (List (List Sc × Bool × Nat)) → Nat → (List Nat) → Nat → Option R
 | 0 => fun _ _ _ _ _ => none
 | n + 1 => fun r_73 o_81 o_82 v_86 v_87 => effect_rows_cut_l1002_b N v_65 v_66 v_67 v_68 r_69 r_70 r_71 r_72 o_74 o_75 o_76 o_77 b_78 o_79 o_80 o_83 o_84 v_85 kp0 (effect_rows_cut_l1002 N v_65 v_66 v_67 v_68 r_69 r_70 r_71 r_72 o_74 o_75 o_76 o_77 b_78 o_79 o_80 o_83 o_84 v_85 kp0 n) r_73 o_81 o_82 v_86 v_87
noncomputable def effect_rows_cut {R : Type} (N : Nat) (Vars Ports Timers : List (List UInt8)) (Nodes : List Node) (many : Bool) (l : List Next) (long : List Int) (known_L : List (List Sc × Int × Nat)) (known_cl : Nat) (both : Bool) (t_L : List (List Sc × Bool × Nat)) (t_cl : Nat) (f_L : List (List Sc × Bool × Nat)) (f_cl : Nat) (k0 : Bool → (List (List Sc × Bool × Nat)) → Nat → Option R) : Option R :=
 effect_copied N f_L f_cl (fun r1 r2 =>
 effect_rows_cut_l2 N 0 2 ((2 : Nat) : Int) 0 Vars Ports Timers Nodes l long known_L known_cl both t_L t_cl r1 r2 t_cl (fun y62 y63 y64 =>
 effect_rows_cut_l1002 N 0 2 ((2 : Nat) : Int) (IntKind.wrap .i64 (0 + 1)) Vars Ports Timers Nodes l long known_L known_cl both t_L t_cl r1 r2 r2 (fun y124 y125 y126 =>
  k0 y124 y125 y126) N y62 y63 y64 [] r2) N many f_L f_cl [] t_cl)
noncomputable def effect_rows_cut_D (N : Nat) : FD E0 := { f := 20, fn := Tryz.f20, q := ⟨[.p 0 0 0, .p 4 0 0], [z32, .rw .next .app, .rw .int .app, z33, .bx [.m 5, .m 6, .b], .mx false [.int .i64] false .bool, .mx false [.int .i64] false .bool]⟩, loops := [{ cur := 4, live := [0, 1, 6, 16, 17, 18, 23], out := fun | .exit 4 => ([0, 1, 16, 17, 18, 23], []) | _ => ([], []), q := ⟨[.p 0 0 0, .p 4 0 0, .i .i64, .sl 7, .i .i64, .i .i64, .p 9 0 0], [z32, .rw .next .app, .rw .int .app, z33, .bx [.m 5, .m 6, .b], .mx false [.int .i64] false .bool, .mx false [.int .i64] false .bool, .bx [.m 5, .m 8], .mx false [.int .i64] false .bool, .it 5]⟩, G := fun R K n a b c d e g h i j l m o p q s t u v w x y z a1 b1 => effect_rows_cut_l4 N b c d e g h i j m o p q s t u x y z a1 b1 (fun c1 d1 e1 => pK ⟨[.p 0 0 0, .p 4 0 0, .sl 7, .i .i64, .i .i64, .p 9 0 0], [z32, .rw .next .app, .rw .int .app, z33, .bx [.m 5, .m 6, .b], .mx false [.int .i64] false .bool, .mx false [.int .i64] false .bool, .bx [.m 5, .m 8], .mx false [.int .i64] false .bool, .it 5]⟩ (K (.exit 4)) b c d e g h i j c1 m o p q s t u d1 e1 x y z a1 b1) n a l v w, B := fun R K rec a b c d e g h i j l m o p q s t u v w x y z a1 b1 => effect_rows_cut_l4_b N b c d e g h i j m o p q s t u x y z a1 b1 (fun c1 d1 e1 => pK ⟨[.p 0 0 0, .p 4 0 0, .sl 7, .i .i64, .i .i64, .p 9 0 0], [z32, .rw .next .app, .rw .int .app, z33, .bx [.m 5, .m 6, .b], .mx false [.int .i64] false .bool, .mx false [.int .i64] false .bool, .bx [.m 5, .m 8], .mx false [.int .i64] false .bool, .it 5]⟩ (K (.exit 4)) b c d e g h i j c1 m o p q s t u d1 e1 x y z a1 b1) (fun a l v w => rec a b c d e g h i j l m o p q s t u v w x y z a1 b1) a l v w, alts := [{ q := ⟨[.p 0 0 0, .p 4 0 0, .i .i64, .sl 7, .i .i64, .i .i64, .p 9 0 0], [z32, .rw .next .app, .rw .int .app, z33, .bx [.m 5, .m 6, .b], .mx false [.int .i64] false .bool, .mx false [.int .i64] false .bool, .bx [.m 5, .m 8], .mx false [.int .i64] false .bool, .it 8]⟩, G := fun R K n a b c d e g h i j l m o p q s t u v w x y z a1 b1 => effect_rows_cut_l1004 N b c d e g h i j m o p q s t u x y z a1 b1 (fun c1 d1 e1 => pK ⟨[.p 0 0 0, .p 4 0 0, .sl 7, .i .i64, .i .i64, .p 9 0 0], [z32, .rw .next .app, .rw .int .app, z33, .bx [.m 5, .m 6, .b], .mx false [.int .i64] false .bool, .mx false [.int .i64] false .bool, .bx [.m 5, .m 8], .mx false [.int .i64] false .bool, .it 8]⟩ (K (.exit 4)) b c d e g h i j c1 m o p q s t u d1 e1 x y z a1 b1) n a l v w, B := fun R K rec a b c d e g h i j l m o p q s t u v w x y z a1 b1 => effect_rows_cut_l1004_b N b c d e g h i j m o p q s t u x y z a1 b1 (fun c1 d1 e1 => pK ⟨[.p 0 0 0, .p 4 0 0, .sl 7, .i .i64, .i .i64, .p 9 0 0], [z32, .rw .next .app, .rw .int .app, z33, .bx [.m 5, .m 6, .b], .mx false [.int .i64] false .bool, .mx false [.int .i64] false .bool, .bx [.m 5, .m 8], .mx false [.int .i64] false .bool, .it 8]⟩ (K (.exit 4)) b c d e g h i j c1 m o p q s t u d1 e1 x y z a1 b1) (fun a l v w => rec a b c d e g h i j l m o p q s t u v w x y z a1 b1) a l v w }] }, { cur := 2, live := [0, 1, 16, 17, 18, 23], out := fun | .exit 2 => ([0, 1, 16, 17, 18], []) | _ => ([], []), q := ⟨[.p 0 0 0, .p 4 0 0, .sl 7, .i .i64, .i .i64, .p 9 0 0], [z32, .rw .next .app, .rw .int .app, z33, .bx [.m 5, .m 6, .b], .mx false [.int .i64] false .bool, .mx false [.int .i64] false .bool, .bx [.m 5, .m 8], .mx false [.int .i64] false .bool, .it 5]⟩, G := fun R K n a b c d e g h i j l m o p q s t u v w x y z a1 => effect_rows_cut_l2 N a b c d e g h i l m o p q s t w x y (fun b1 c1 d1 => pK ⟨[.p 0 0 0, .p 4 0 0, .sl 7, .i .i64, .i .i64], [z32, .rw .next .app, .rw .int .app, z33, .bx [.m 5, .m 6, .b], .mx false [.int .i64] false .bool, .mx false [.int .i64] false .bool, .bx [.m 5, .m 8], .mx false [.int .i64] false .bool]⟩ (K (.exit 2)) a b c d e g h i b1 l m o p q s t c1 d1 w x) n j u v z a1, B := fun R K rec a b c d e g h i j l m o p q s t u v w x y z a1 => effect_rows_cut_l2_b N a b c d e g h i l m o p q s t w x y (fun b1 c1 d1 => pK ⟨[.p 0 0 0, .p 4 0 0, .sl 7, .i .i64, .i .i64], [z32, .rw .next .app, .rw .int .app, z33, .bx [.m 5, .m 6, .b], .mx false [.int .i64] false .bool, .mx false [.int .i64] false .bool, .bx [.m 5, .m 8], .mx false [.int .i64] false .bool]⟩ (K (.exit 2)) a b c d e g h i b1 l m o p q s t c1 d1 w x) (fun j u v z a1 => rec a b c d e g h i j l m o p q s t u v w x y z a1) j u v z a1, alts := [{ q := ⟨[.p 0 0 0, .p 4 0 0, .sl 7, .i .i64, .i .i64, .p 9 0 0], [z32, .rw .next .app, .rw .int .app, z33, .bx [.m 5, .m 6, .b], .mx false [.int .i64] false .bool, .mx false [.int .i64] false .bool, .bx [.m 5, .m 8], .mx false [.int .i64] false .bool, .it 8]⟩, G := fun R K n a b c d e g h i j l m o p q s t u v w x y z a1 => effect_rows_cut_l1002 N a b c d e g h i l m o p q s t w x y (fun b1 c1 d1 => pK ⟨[.p 0 0 0, .p 4 0 0, .sl 7, .i .i64, .i .i64], [z32, .rw .next .app, .rw .int .app, z33, .bx [.m 5, .m 6, .b], .mx false [.int .i64] false .bool, .mx false [.int .i64] false .bool, .bx [.m 5, .m 8], .mx false [.int .i64] false .bool]⟩ (K (.exit 2)) a b c d e g h i b1 l m o p q s t c1 d1 w x) n j u v z a1, B := fun R K rec a b c d e g h i j l m o p q s t u v w x y z a1 => effect_rows_cut_l1002_b N a b c d e g h i l m o p q s t w x y (fun b1 c1 d1 => pK ⟨[.p 0 0 0, .p 4 0 0, .sl 7, .i .i64, .i .i64], [z32, .rw .next .app, .rw .int .app, z33, .bx [.m 5, .m 6, .b], .mx false [.int .i64] false .bool, .mx false [.int .i64] false .bool, .bx [.m 5, .m 8], .mx false [.int .i64] false .bool]⟩ (K (.exit 2)) a b c d e g h i b1 l m o p q s t c1 d1 w x) (fun j u v z a1 => rec a b c d e g h i j l m o p q s t u v w x y z a1) j u v z a1 }] }], unr := [{ cur := 0, live := [0, 1, 16, 17, 18], out := fun | .exit 0 => ([], []) | _ => ([], []) }], g := [effect_rows_put_S N], gm := [effect_copied_S N], nd := true, dr := [(0, [0, 1, 2, 3, 4, 5, 6, 7, 11, 8, 9, 10])] }
noncomputable def effect_rows_cut_S (N : Nat) : OCM E0 := ⟨_, FD.ctm e0 (effect_rows_cut_D (N + 3)) (N + 3) (fun R k a b c d e g h i j l m o p q => effect_rows_cut (N + 3) a b c d e g h i j l m o p q (fun s => oK ⟨.tp [], [z32, .rw .next .app, .rw .int .app, z33, .bx [.m 5, .m 6, .b], .mx false [.int .i64] false .bool, .mx false [.int .i64] false .bool], []⟩ k a b c d s g h i j l m o))⟩
noncomputable def srt (xs : List (List Mark)) : List (List Mark) := xs.mergeSort fun x y => !(Go.Proofs.ltOf cM) y x
noncomputable def slices_SortFunc_Mark {R : Type} (N : Nat) (x : List (List Mark)) (k0 : List (List Mark) → Option R) : Option R := if x.length < 4611686018427387904 ∧ (x.all fun m => decide (m.length < big)) = true then k0 (srt x) else none
theorem slices_SortFunc_Mark_ok : Ct.ok E0 ⟨22, ⟨[.sw 0, .fn 23 []], [.rw .marks .own]⟩, fun R k x => slices_SortFunc_Mark 0 x (oK ⟨.tp [], [.rw .marks .own], []⟩ k)⟩ := by
 intro R x k r h
 obtain ⟨_, xs, _⟩ := x
 replace h : (if xs.length < 4611686018427387904 ∧ (xs.all fun m => decide (m.length < big)) = true then k ⟨.tup [], some [.row .marks (srt xs) .own], []⟩ else none) = some r := h
 split at h
 ·rename_i hc
  exact ⟨_, h, c30 xs (fun m hm => by have := List.all_eq_true.1 hc.2 m hm; simpa using this) hc.1⟩
 ·cases h
noncomputable def slices_SortFunc_Mark_S (N : Nat) : OC E0 := ⟨⟨22, ⟨[.sw 0, .fn 23 []], [.rw .marks .own]⟩, fun R k x => slices_SortFunc_Mark N x (oK ⟨.tp [], [.rw .marks .own], []⟩ k)⟩, slices_SortFunc_Mark_ok⟩
noncomputable def code_writer_number_l0_b {R : Type} (N : Nat) (v_19 : List Expr) (v_20 : Int) (w_22 w_23 w_24 : List (List UInt8)) (w_25 : List Node) (a_27 : Int) (a_28 a_29 : List UInt8) (a_30 : List Expr) (a_31 : Int) (a_32 a_33 : List Act) (a_34 : Int) (kp0 : (List Ins) → Option R) (rec : Int → (List Ins) → Option R) (v_21 : Int) (o_26 : List Ins) : Option R :=
 if (decide (v_21 < v_20)) = true then
  ((at? v_19 v_21).bind fun e35 =>
 code_writer_expr_2 N e35.Kind e35.N e35.Name e35.Kids e35.At w_22 w_23 w_24 w_25 o_26 (fun r36 =>
 rec (IntKind.wrap .i64 (v_21 + 1)) r36) (rec (IntKind.wrap .i64 (v_21 + 1)) o_26))
 else
  (kp0 o_26)
noncomputable def code_writer_number_l0 {R : Type} (N : Nat) (v_19 : List Expr) (v_20 : Int) (w_22 w_23 w_24 : List (List UInt8)) (w_25 : List Node) (a_27 : Int) (a_28 a_29 : List UInt8) (a_30 : List Expr) (a_31 : Int) (a_32 a_33 : List Act) (a_34 : Int) (kp0 : (List Ins) → Option R) : Nat → Int → (List Ins) → Option R
 | 0 => fun _ _ => none
 | n + 1 => fun v_21 o_26 => code_writer_number_l0_b N v_19 v_20 w_22 w_23 w_24 w_25 a_27 a_28 a_29 a_30 a_31 a_32 a_33 a_34 kp0 (code_writer_number_l0 N v_19 v_20 w_22 w_23 w_24 w_25 a_27 a_28 a_29 a_30 a_31 a_32 a_33 a_34 kp0 n) v_21 o_26
noncomputable def code_writer_number {R : Type} (N : Nat) (Kind : Int) (Name Event : List UInt8) (X : List Expr) (N_ : Int) (Then Else : List Act) (At : Int) (Vars Ports Timers : List (List UInt8)) (Nodes : List Node) (c : List Ins) (k0 : (List Ins) → Option R) : Option R :=
 code_writer_number_l0 N X ((X.length : Nat) : Int) Vars Ports Timers Nodes Kind Name Event X N_ Then Else At (fun y37 =>
 if (((X.length : Nat) : Int) == 0) = true then
  (code_writer_push_2 N 0 Vars Ports Timers Nodes y37 (fun r38 =>
  k0 r38))
 else
  (k0 y37)) N 0 c
noncomputable def code_writer_number_D (N : Nat) : FD E0 := { f := 92, fn := Tryz.f92, q := ⟨[.p 0 0 0, y6], [z2, .rw .ins .own]⟩, loops := [{ cur := 0, live := [0, 3, 7, 8, 9], fix := [(⟨0, [4]⟩, .fresh .ins .own)], out := fun | .exit 0 => ([0, 3], []) | _ => ([], []), q := ⟨[.p 0 0 0, .p 3 0 0, .t .expr, .i .i64, .i .i64], [z3, .g, .rw .ins .own, z36]⟩, G := fun R K n a b c d e g h i j l m o p q s t => code_writer_number_l0 N a b d e g h j l m o p q s t (fun u => pK ⟨[.p 0 0 0, .p 3 0 0], [z3, .g, .rw .ins .own, z36]⟩ (K (.exit 0)) d e g h u j l m o p q s t) n c i, B := fun R K rec a b c d e g h i j l m o p q s t => code_writer_number_l0_b N a b d e g h j l m o p q s t (fun u => pK ⟨[.p 0 0 0, .p 3 0 0], [z3, .g, .rw .ins .own, z36]⟩ (K (.exit 0)) d e g h u j l m o p q s t) (fun c i => rec a b c d e g h i j l m o p q s t) c i }], g := [code_writer_expr_2_S N, code_writer_push_2_S N] }
noncomputable def code_writer_number_S (N : Nat) : OC E0 := ⟨_, FD.ct e0 (code_writer_number_D N) N (fun R k a b c d e g h i j l m o p => code_writer_number N a b c d e g h i j l m o p (oK ⟨.tp [], [z3, .g], [.rw .ins .own]⟩ k j l m o))⟩
noncomputable def code_writer_act_c3 {R : Type} (N : Nat) (w_2 w_3 w_4 : List (List UInt8)) (w_5 : List Node) (o_6 : List Ins) (a_7 : Int) (a_8 a_9 : List UInt8) (a_10 : List Expr) (a_11 : Int) (a_12 a_13 : List Act) (a_14 : Int) (kp0 : (List Ins) → Option R) : Option R :=
 if (a_7 == 1) = true then
  (slices_Index_string N w_2 a_8 (fun r15 =>
  code_writer_put_2 N 18 r15 0 [] w_2 w_3 w_4 w_5 o_6 (fun r16 r17 =>
  kp0 r17)))
 else
  (if (a_7 == 2) = true then
   (code_writer_put_2 N 19 0 0 a_9 w_2 w_3 w_4 w_5 o_6 (fun r18 r19 =>
   kp0 r19))
  else
   (if (a_7 == 3) = true then
    (slices_Index_string N w_3 a_8 (fun r20 =>
    code_writer_put_2 N 20 r20 0 a_9 w_2 w_3 w_4 w_5 o_6 (fun r21 r22 =>
    kp0 r22)))
   else
    (if (a_7 == 4) = true then
     (slices_Index_string N w_4 a_8 (fun r23 =>
     code_writer_put_2 N 21 r23 0 [] w_2 w_3 w_4 w_5 o_6 (fun r24 r25 =>
     kp0 r25)))
    else
     (if (a_7 == 5) = true then
      (slices_Index_string N w_4 a_8 (fun r26 =>
      code_writer_put_2 N 22 r26 0 [] w_2 w_3 w_4 w_5 o_6 (fun r27 r28 =>
      kp0 r28)))
     else
      (kp0 o_6)))))
noncomputable def code_writer_act {R : Type} (N : Nat) (Kind : Int) (Name Event : List UInt8) (X : List Expr) (N_ : Int) (Then Else : List Act) (At : Int) (Vars Ports Timers : List (List UInt8)) (Nodes : List Node) (c : List Ins) (k0 : (List Ins) → Option R) : Option R :=
 if (Kind != 5) = true then
  (code_writer_number N Kind Name Event X N_ Then Else At Vars Ports Timers Nodes c (fun r1 =>
  code_writer_act_c3 N Vars Ports Timers Nodes r1 Kind Name Event X N_ Then Else At (fun y29 =>
  k0 y29)))
 else
  (code_writer_act_c3 N Vars Ports Timers Nodes c Kind Name Event X N_ Then Else At (fun y30 =>
  k0 y30))
noncomputable def code_writer_act_D (N : Nat) : FD E0 := { f := 62, fn := Tryz.f62, q := ⟨[.p 0 0 0, y6], [z2, .rw .ins .own]⟩, cuts := [{ key := 3, live := [0, 3], fix := [(⟨0, [4]⟩, .fresh .ins .own)], out := fun | .normal => ([], []) | _ => ([], []), q := ⟨[.p 0 0 0, .p 3 0 0], [z3, .g, .rw .ins .own, z36]⟩, G := fun R K a b c d e g h i j l m o p => code_writer_act_c3 N a b c d e g h i j l m o p (pK ⟨[], [z3, .g, .rw .ins .own]⟩ (K .normal) a b c d) }], g := [slices_Index_string_S N, code_writer_put_2_S N, code_writer_number_S N] }
noncomputable def code_writer_act_S (N : Nat) : OC E0 := ⟨_, FD.ct e0 (code_writer_act_D N) N (fun R k a b c d e g h i j l m o p => code_writer_act N a b c d e g h i j l m o p (oK ⟨.tp [], [z3, .g], [.rw .ins .own]⟩ k j l m o))⟩
structure Fam_code_writer_block_2 where
 code_writer_block_2 : (R : Type) → (List Act) → (List (List UInt8)) → (List (List UInt8)) → (List (List UInt8)) → (List Node) → (List Ins) → ((List Ins) → Option R) → Option R
 code_writer_loop_2 : (R : Type) → Int → (List UInt8) → (List UInt8) → (List Expr) → Int → (List Act) → (List Act) → Int → (List (List UInt8)) → (List (List UInt8)) → (List (List UInt8)) → (List Node) → (List Ins) → ((List Ins) → Option R) → Option R
 code_writer_choice : (R : Type) → Int → (List UInt8) → (List UInt8) → (List Expr) → Int → (List Act) → (List Act) → Int → (List (List UInt8)) → (List (List UInt8)) → (List (List UInt8)) → (List Node) → (List Ins) → ((List Ins) → Option R) → Option R
def code_writer_block_2_q : Pat S := ⟨[.p 0 0 0, .t .act], [z2, .rw .ins .own]⟩
noncomputable def code_writer_block_2_C (F : Fam_code_writer_block_2) : Ct S := ⟨35, code_writer_block_2_q, fun R k a b c d e g => F.code_writer_block_2 R a b c d e g (oK ⟨.tp [], [z3, .g], [.rw .ins .own]⟩ k b c d e)⟩
def code_writer_loop_2_q : Pat S := ⟨[.p 0 0 0, y6], [z2, .rw .ins .own]⟩
noncomputable def code_writer_loop_2_C (F : Fam_code_writer_block_2) : Ct S := ⟨60, code_writer_loop_2_q, fun R k a b c d e g h i j l m o p => F.code_writer_loop_2 R a b c d e g h i j l m o p (oK ⟨.tp [], [z3, .g], [.rw .ins .own]⟩ k j l m o)⟩
def code_writer_choice_q : Pat S := ⟨[.p 0 0 0, y6], [z2, .rw .ins .own]⟩
noncomputable def code_writer_choice_C (F : Fam_code_writer_block_2) : Ct S := ⟨61, code_writer_choice_q, fun R k a b c d e g h i j l m o p => F.code_writer_choice R a b c d e g h i j l m o p (oK ⟨.tp [], [z3, .g], [.rw .ins .own]⟩ k j l m o)⟩
structure Fam_code_writer_block_2_ok (F : Fam_code_writer_block_2) : Prop where
 code_writer_block_2 : (code_writer_block_2_C F).ok E0
 code_writer_loop_2 : (code_writer_loop_2_C F).ok E0
 code_writer_choice : (code_writer_choice_C F).ok E0
noncomputable def code_writer_block_2_l0_b (F : Fam_code_writer_block_2) {R : Type} (N : Nat) (v_11 : List Act) (v_12 : Int) (w_14 w_15 w_16 : List (List UInt8)) (w_17 : List Node) (kp0 : (List Ins) → Option R) (rec : Int → (List Ins) → Option R) (v_13 : Int) (o_18 : List Ins) : Option R :=
 if (decide (v_13 < v_12)) = true then
  ((at? v_11 v_13).bind fun e19 =>
 if (e19.Kind == 7) = true then
  (F.code_writer_loop_2 _ e19.Kind e19.Name e19.Event e19.X e19.N e19.Then e19.Else e19.At w_14 w_15 w_16 w_17 o_18 (fun r20 =>
  rec (IntKind.wrap .i64 (v_13 + 1)) r20))
 else
  (if (e19.Kind == 6) = true then
   (F.code_writer_choice _ e19.Kind e19.Name e19.Event e19.X e19.N e19.Then e19.Else e19.At w_14 w_15 w_16 w_17 o_18 (fun r21 =>
   rec (IntKind.wrap .i64 (v_13 + 1)) r21))
  else
   (code_writer_act N e19.Kind e19.Name e19.Event e19.X e19.N e19.Then e19.Else e19.At w_14 w_15 w_16 w_17 o_18 (fun r22 =>
   rec (IntKind.wrap .i64 (v_13 + 1)) r22))))
 else
  (kp0 o_18)
noncomputable def code_writer_block_2_l0 (F : Fam_code_writer_block_2) {R : Type} (N : Nat) (v_11 : List Act) (v_12 : Int) (w_14 w_15 w_16 : List (List UInt8)) (w_17 : List Node) (kp0 : (List Ins) → Option R) : Nat → Int → (List Ins) → Option R
 | 0 => fun _ _ => none
 | n + 1 => fun v_13 o_18 => code_writer_block_2_l0_b F N v_11 v_12 w_14 w_15 w_16 w_17 kp0 (code_writer_block_2_l0 F N v_11 v_12 w_14 w_15 w_16 w_17 kp0 n) v_13 o_18
noncomputable def code_writer_block_2_d (F : Fam_code_writer_block_2) {R : Type} (N : Nat) (l : List Act) (Vars Ports Timers : List (List UInt8)) (Nodes : List Node) (c : List Ins) (k0 : (List Ins) → Option R) : Option R :=
 code_writer_block_2_l0 F N l ((l.length : Nat) : Int) Vars Ports Timers Nodes (fun y23 =>
 k0 y23) N 0 c
noncomputable def code_writer_block_2_D (F : Fam_code_writer_block_2) (hF : Fam_code_writer_block_2_ok F) (N : Nat) : FD E0 := { f := 35, fn := Tryz.f35, q := code_writer_block_2_q, loops := [{ cur := 0, live := [0, 6, 7, 8], fix := [(⟨0, [4]⟩, .fresh .ins .own)], out := fun | .exit 0 => ([], []) | _ => ([], []), q := ⟨[.p 0 0 0, .t .act, .i .i64, .i .i64], [z3, .g, .rw .ins .own]⟩, G := fun R K n a b c d e g h i => code_writer_block_2_l0 F N a b d e g h (pK ⟨[], [z3, .g, .rw .ins .own]⟩ (K (.exit 0)) d e g h) n c i, B := fun R K rec a b c d e g h i => code_writer_block_2_l0_b F N a b d e g h (pK ⟨[], [z3, .g, .rw .ins .own]⟩ (K (.exit 0)) d e g h) (fun c i => rec a b c d e g h i) c i }], g := [⟨code_writer_loop_2_C F, hF.code_writer_loop_2⟩, ⟨code_writer_choice_C F, hF.code_writer_choice⟩, code_writer_act_S N] }
theorem code_writer_block_2_okF (F : Fam_code_writer_block_2) (hF : Fam_code_writer_block_2_ok F) (N : Nat) : Ct.ok E0 ⟨(code_writer_block_2_D F hF N).f, (code_writer_block_2_D F hF N).q, fun R k a b c d e g => code_writer_block_2_d F N a b c d e g (oK ⟨.tp [], [z3, .g], [.rw .ins .own]⟩ k b c d e)⟩ := FD.ct e0 (code_writer_block_2_D F hF N) N (fun R k a b c d e g => code_writer_block_2_d F N a b c d e g (oK ⟨.tp [], [z3, .g], [.rw .ins .own]⟩ k b c d e))
noncomputable def code_writer_loop_2_d (F : Fam_code_writer_block_2) {R : Type} (N : Nat) (Kind : Int) (Name Event : List UInt8) (X : List Expr) (N_ : Int) (Then Else : List Act) (At : Int) (Vars Ports Timers : List (List UInt8)) (Nodes : List Node) (c : List Ins) (k0 : (List Ins) → Option R) : Option R :=
 code_writer_put_2 N 25 0 N_ [] Vars Ports Timers Nodes c (fun r1 r2 =>
 F.code_writer_block_2 _ Then Vars Ports Timers Nodes r2 (fun r3 =>
 code_writer_put_2 N 26 r1 0 [] Vars Ports Timers Nodes r3 (fun r4 r5 =>
 code_writer_here N r1 Vars Ports Timers Nodes r5 (fun r6 =>
 k0 r6))))
noncomputable def code_writer_loop_2_D (F : Fam_code_writer_block_2) (hF : Fam_code_writer_block_2_ok F) (N : Nat) : FD E0 := { f := 60, fn := Tryz.f60, q := code_writer_loop_2_q, g := [⟨code_writer_block_2_C F, hF.code_writer_block_2⟩, code_writer_put_2_S N, code_writer_here_S N] }
theorem code_writer_loop_2_okF (F : Fam_code_writer_block_2) (hF : Fam_code_writer_block_2_ok F) (N : Nat) : Ct.ok E0 ⟨(code_writer_loop_2_D F hF N).f, (code_writer_loop_2_D F hF N).q, fun R k a b c d e g h i j l m o p => code_writer_loop_2_d F N a b c d e g h i j l m o p (oK ⟨.tp [], [z3, .g], [.rw .ins .own]⟩ k j l m o)⟩ := FD.ct e0 (code_writer_loop_2_D F hF N) N (fun R k a b c d e g h i j l m o p => code_writer_loop_2_d F N a b c d e g h i j l m o p (oK ⟨.tp [], [z3, .g], [.rw .ins .own]⟩ k j l m o))
noncomputable def code_writer_choice_c7 (F : Fam_code_writer_block_2) {R : Type} (N : Nat) (no_8 jump_9 : Int) (w_10 w_11 w_12 : List (List UInt8)) (w_13 : List Node) (o_14 : List Ins) (a_15 : Int) (a_16 a_17 : List UInt8) (a_18 : List Expr) (a_19 : Int) (a_20 a_21 : List Act) (a_22 : Int) (kp0 : (List Ins) → Option R) : Option R :=
 code_writer_here N no_8 w_10 w_11 w_12 w_13 o_14 (fun r23 =>
 F.code_writer_block_2 _ a_21 w_10 w_11 w_12 w_13 r23 (fun r24 =>
 code_writer_here N jump_9 w_10 w_11 w_12 w_13 r24 (fun r25 =>
 kp0 r25)))
noncomputable def code_writer_choice_d (F : Fam_code_writer_block_2) {R : Type} (N : Nat) (Kind : Int) (Name Event : List UInt8) (X : List Expr) (N_ : Int) (Then Else : List Act) (At : Int) (Vars Ports Timers : List (List UInt8)) (Nodes : List Node) (c : List Ins) (k0 : (List Ins) → Option R) : Option R :=
 code_writer_number N Kind Name Event X N_ Then Else At Vars Ports Timers Nodes c (fun r1 =>
 code_writer_put_2 N 24 0 0 [] Vars Ports Timers Nodes r1 (fun r2 r3 =>
 F.code_writer_block_2 _ Then Vars Ports Timers Nodes r3 (fun r4 =>
 if (((Else.length : Nat) : Int) == 0) = true then
  (code_writer_here N r2 Vars Ports Timers Nodes r4 (fun r5 =>
  k0 r5))
 else
  (code_writer_put_2 N 23 0 0 [] Vars Ports Timers Nodes r4 (fun r6 r7 =>
 code_writer_choice_c7 F N r2 r6 Vars Ports Timers Nodes r7 Kind Name Event X N_ Then Else At (fun y26 =>
 k0 y26))))))
noncomputable def code_writer_choice_D (F : Fam_code_writer_block_2) (hF : Fam_code_writer_block_2_ok F) (N : Nat) : FD E0 := { f := 61, fn := Tryz.f61, q := code_writer_choice_q, cuts := [{ key := 7, live := [0, 3, 4, 5], out := fun | .normal => ([], []) | _ => ([], []), q := ⟨[.p 0 0 0, .p 3 0 0, .i .i64, .i .i64], [z3, .g, .rw .ins .own, z36]⟩, G := fun R K a b c d e g h i j l m o p q s => code_writer_choice_c7 F N a b c d e g h i j l m o p q s (pK ⟨[], [z3, .g, .rw .ins .own]⟩ (K .normal) c d e g) }], g := [⟨code_writer_block_2_C F, hF.code_writer_block_2⟩, code_writer_put_2_S N, code_writer_here_S N, code_writer_number_S N] }
theorem code_writer_choice_okF (F : Fam_code_writer_block_2) (hF : Fam_code_writer_block_2_ok F) (N : Nat) : Ct.ok E0 ⟨(code_writer_choice_D F hF N).f, (code_writer_choice_D F hF N).q, fun R k a b c d e g h i j l m o p => code_writer_choice_d F N a b c d e g h i j l m o p (oK ⟨.tp [], [z3, .g], [.rw .ins .own]⟩ k j l m o)⟩ := FD.ct e0 (code_writer_choice_D F hF N) N (fun R k a b c d e g h i j l m o p => code_writer_choice_d F N a b c d e g h i j l m o p (oK ⟨.tp [], [z3, .g], [.rw .ins .own]⟩ k j l m o))
noncomputable def Fam_code_writer_block_2_next (F : Fam_code_writer_block_2) (N : Nat) : Fam_code_writer_block_2 where
 code_writer_block_2 := fun R l Vars Ports Timers Nodes c k0 => code_writer_block_2_d F N l Vars Ports Timers Nodes c k0
 code_writer_loop_2 := fun R Kind Name Event X N_ Then Else At Vars Ports Timers Nodes c k0 => code_writer_loop_2_d F N Kind Name Event X N_ Then Else At Vars Ports Timers Nodes c k0
 code_writer_choice := fun R Kind Name Event X N_ Then Else At Vars Ports Timers Nodes c k0 => code_writer_choice_d F N Kind Name Event X N_ Then Else At Vars Ports Timers Nodes c k0
noncomputable def Fam_code_writer_block_2_at (N : Nat) : Nat → Fam_code_writer_block_2
 | 0 => { code_writer_block_2 := fun _ _ _ _ _ _ _ _ => none, code_writer_loop_2 := fun _ _ _ _ _ _ _ _ _ _ _ _ _ _ _ => none, code_writer_choice := fun _ _ _ _ _ _ _ _ _ _ _ _ _ _ _ => none }
 | d + 1 => Fam_code_writer_block_2_next (Fam_code_writer_block_2_at N d) N
theorem Fam_code_writer_block_2_at_ok (N : Nat) : ∀ d, Fam_code_writer_block_2_ok (Fam_code_writer_block_2_at N d)
 | 0 => { code_writer_block_2 := Ct.ok_none, code_writer_loop_2 := Ct.ok_none, code_writer_choice := Ct.ok_none }
 | d + 1 => { code_writer_block_2 := code_writer_block_2_okF _ (Fam_code_writer_block_2_at_ok N d) N, code_writer_loop_2 := code_writer_loop_2_okF _ (Fam_code_writer_block_2_at_ok N d) N, code_writer_choice := code_writer_choice_okF _ (Fam_code_writer_block_2_at_ok N d) N }
noncomputable def code_writer_block_2 {R : Type} (N : Nat) (l : List Act) (Vars Ports Timers : List (List UInt8)) (Nodes : List Node) (c : List Ins) (k0 : (List Ins) → Option R) : Option R := (Fam_code_writer_block_2_at N N).code_writer_block_2 R l Vars Ports Timers Nodes c k0
noncomputable def code_writer_block_2_S (N : Nat) : OC E0 := ⟨code_writer_block_2_C (Fam_code_writer_block_2_at N N), (Fam_code_writer_block_2_at_ok N N).code_writer_block_2⟩
noncomputable def code_writer_loop_2 {R : Type} (N : Nat) (Kind : Int) (Name Event : List UInt8) (X : List Expr) (N_ : Int) (Then Else : List Act) (At : Int) (Vars Ports Timers : List (List UInt8)) (Nodes : List Node) (c : List Ins) (k0 : (List Ins) → Option R) : Option R := (Fam_code_writer_block_2_at N N).code_writer_loop_2 R Kind Name Event X N_ Then Else At Vars Ports Timers Nodes c k0
noncomputable def code_writer_loop_2_S (N : Nat) : OC E0 := ⟨code_writer_loop_2_C (Fam_code_writer_block_2_at N N), (Fam_code_writer_block_2_at_ok N N).code_writer_loop_2⟩
noncomputable def code_writer_choice {R : Type} (N : Nat) (Kind : Int) (Name Event : List UInt8) (X : List Expr) (N_ : Int) (Then Else : List Act) (At : Int) (Vars Ports Timers : List (List UInt8)) (Nodes : List Node) (c : List Ins) (k0 : (List Ins) → Option R) : Option R := (Fam_code_writer_block_2_at N N).code_writer_choice R Kind Name Event X N_ Then Else At Vars Ports Timers Nodes c k0
noncomputable def code_writer_choice_S (N : Nat) : OC E0 := ⟨code_writer_choice_C (Fam_code_writer_block_2_at N N), (Fam_code_writer_block_2_at_ok N N).code_writer_choice⟩
noncomputable def code_writer_loop {R : Type} (N : Nat) (Kind : Int) (Name Event : List UInt8) (X : List Expr) (N_ : Int) (Then Else : List Act) (At : Int) (Vars Ports Timers : List (List UInt8)) (Nodes : List Node) (k0 : (List Ins) → Option R) : Option R :=
 code_writer_put N 25 0 N_ [] Vars Ports Timers Nodes (fun r1 r2 =>
 code_writer_block_2 N Then Vars Ports Timers Nodes r2 (fun r3 =>
 code_writer_put_2 N 26 r1 0 [] Vars Ports Timers Nodes r3 (fun r4 r5 =>
 code_writer_here N r1 Vars Ports Timers Nodes r5 (fun r6 =>
 k0 r6))))
noncomputable def code_writer_loop_D (N : Nat) : FD E0 := { f := 60, fn := Tryz.f60, q := ⟨[.p 0 0 0, y6], [z1]⟩, g := [code_writer_block_2_S N, code_writer_put_S N, code_writer_put_2_S N, code_writer_here_S N] }
noncomputable def code_writer_loop_S (N : Nat) : OC E0 := ⟨_, FD.ct e0 (code_writer_loop_D N) N (fun R k a b c d e g h i j l m o => code_writer_loop N a b c d e g h i j l m o (oK ⟨.tp [], [z2], [.rw .ins .own]⟩ k j l m o))⟩
noncomputable def code_writer_block_l0_b {R : Type} (N : Nat) (v_10 : List Act) (v_11 : Int) (w_13 w_14 w_15 : List (List UInt8)) (w_16 : List Node) (kp0 : (List Ins) → Option R) (rec : Int → (List Ins) → Option R) (v_12 : Int) (o_17 : List Ins) : Option R :=
 if (decide (v_12 < v_11)) = true then
  ((at? v_10 v_12).bind fun e18 =>
 if (e18.Kind == 7) = true then
  (code_writer_loop_2 N e18.Kind e18.Name e18.Event e18.X e18.N e18.Then e18.Else e18.At w_13 w_14 w_15 w_16 o_17 (fun r19 =>
  rec (IntKind.wrap .i64 (v_12 + 1)) r19))
 else
  (if (e18.Kind == 6) = true then
   (code_writer_choice N e18.Kind e18.Name e18.Event e18.X e18.N e18.Then e18.Else e18.At w_13 w_14 w_15 w_16 o_17 (fun r20 =>
   rec (IntKind.wrap .i64 (v_12 + 1)) r20))
  else
   (code_writer_act N e18.Kind e18.Name e18.Event e18.X e18.N e18.Then e18.Else e18.At w_13 w_14 w_15 w_16 o_17 (fun r21 =>
   rec (IntKind.wrap .i64 (v_12 + 1)) r21))))
 else
  (kp0 o_17)
noncomputable def code_writer_block_l0 {R : Type} (N : Nat) (v_10 : List Act) (v_11 : Int) (w_13 w_14 w_15 : List (List UInt8)) (w_16 : List Node) (kp0 : (List Ins) → Option R) : Nat → Int → (List Ins) → Option R
 | 0 => fun _ _ => none
 | n + 1 => fun v_12 o_17 => code_writer_block_l0_b N v_10 v_11 w_13 w_14 w_15 w_16 kp0 (code_writer_block_l0 N v_10 v_11 w_13 w_14 w_15 w_16 kp0 n) v_12 o_17
noncomputable def code_writer_block {R : Type} (N : Nat) (l : List Act) (Vars Ports Timers : List (List UInt8)) (Nodes : List Node) (k0 : (List Ins) → Option R) : Option R :=
 code_writer_block_l0 N l ((l.length : Nat) : Int) Vars Ports Timers Nodes (fun y22 =>
 k0 y22) N 0 ([] : List Ins)
noncomputable def code_writer_block_D (N : Nat) : FD E0 := { f := 35, fn := Tryz.f35, q := ⟨[.p 0 0 0, .t .act], [z1]⟩, loops := [{ cur := 0, live := [0, 6, 7, 8], fix := [(⟨0, [4]⟩, .row .ins .own)], out := fun | .exit 0 => ([], []) | _ => ([], []), q := ⟨[.p 0 0 0, .t .act, .i .i64, .i .i64], [z2, .rw .ins .own]⟩, G := fun R K n a b c d e g h i => code_writer_block_l0 N a b d e g h (pK ⟨[], [z2, .rw .ins .own]⟩ (K (.exit 0)) d e g h) n c i, B := fun R K rec a b c d e g h i => code_writer_block_l0_b N a b d e g h (pK ⟨[], [z2, .rw .ins .own]⟩ (K (.exit 0)) d e g h) (fun c i => rec a b c d e g h i) c i }], g := [code_writer_loop_S N, code_writer_loop_2_S N, code_writer_choice_S N, code_writer_act_S N] }
noncomputable def code_writer_block_S (N : Nat) : OC E0 := ⟨_, FD.ct e0 (code_writer_block_D N) N (fun R k a b c d e => code_writer_block N a b c d e (oK ⟨.tp [], [z2], [.rw .ins .own]⟩ k b c d e))⟩
noncomputable def code_Block {R : Type} (N : Nat) (l : List Act) (Vars Ports Timers : List (List UInt8)) (Nodes : List Node) (k0 : (List Ins) → Option R) : Option R :=
 code_writer_block N l Vars Ports Timers Nodes (fun r1 =>
 k0 r1)
noncomputable def code_Block_D (N : Nat) : FD E0 := { f := 19, fn := Tryz.f19, q := ⟨[.t .act, y1], []⟩, g := [code_writer_block_S N], exit := [(⟨4, []⟩, .tree .ins)] }
noncomputable def code_Block_S (N : Nat) : OC E0 := ⟨_, FD.ct e0 (code_Block_D N) N (fun R k a b c d e => code_Block N a b c d e (oK ⟨.t .ins, [], []⟩ k))⟩
noncomputable def slices_Equal_Mark_l0_b {R : Type} (N : Nat) (s1_1 s2_2 : List Mark) (v_3 : Int) (kp0 : Option R) (kp1 : Bool → Option R) (rec : Int → Option R) (v_4 : Int) : Option R :=
 if (decide (v_4 < v_3)) = true then
  ((at? s1_1 v_4).bind fun e5 =>
 (at? s2_2 v_4).bind fun e6 =>
 if (!((e5.Port == e6.Port) && ((e5.Event == e6.Event) && true))) = true then
  (kp1 false)
 else
  (rec (IntKind.wrap .i64 (v_4 + 1))))
 else
  (kp0 )
noncomputable def slices_Equal_Mark_l0 {R : Type} (N : Nat) (s1_1 s2_2 : List Mark) (v_3 : Int) (kp0 : Option R) (kp1 : Bool → Option R) : Nat → Int → Option R
 | 0 => fun _ => none
 | n + 1 => fun v_4 => slices_Equal_Mark_l0_b N s1_1 s2_2 v_3 kp0 kp1 (slices_Equal_Mark_l0 N s1_1 s2_2 v_3 kp0 kp1 n) v_4
noncomputable def slices_Equal_Mark {R : Type} (N : Nat) (s1 s2 : List Mark) (k0 : Bool → Option R) : Option R :=
 if (((s1.length : Nat) : Int) != ((s2.length : Nat) : Int)) = true then
  (k0 false)
 else
  (slices_Equal_Mark_l0 N s1 s2 ((s1.length : Nat) : Int) (k0 true)
  (fun y7 =>
 k0 y7) N 0)
noncomputable def slices_Equal_Mark_D (N : Nat) : FD E0 := { f := 25, fn := Tryz.f25, q := ⟨[.t .mark, .t .mark], []⟩, loops := [{ cur := 0, live := [0, 1, 12, 13], out := fun | .exit 0 => ([], []) | .ret => ([4], []) | _ => ([], []), q := ⟨[.t .mark, .t .mark, .i .i64, .i .i64], []⟩, G := fun R K n a b c d => slices_Equal_Mark_l0 N a b c (pK ⟨[], []⟩ (K (.exit 0))) (pK ⟨[.b], []⟩ (K .ret)) n d, B := fun R K rec a b c d => slices_Equal_Mark_l0_b N a b c (pK ⟨[], []⟩ (K (.exit 0))) (pK ⟨[.b], []⟩ (K .ret)) (rec a b c) d }] }
noncomputable def slices_Equal_Mark_S (N : Nat) : OC E0 := ⟨_, FD.ct e0 (slices_Equal_Mark_D N) N (fun R k a b => slices_Equal_Mark N a b (oK ⟨.b, [], []⟩ k))⟩
noncomputable def slices_CompactFunc_Mark_l2_b {R : Type} (N : Nat) (s2_7 s2_8 : Nat) (kp0 : Int → (List (List Mark)) → Option R) (rec : Int → Int → (List (List Mark)) → Option R) (k_6 k2_9 : Int) (s_10 : List (List Mark)) : Option R :=
 if (decide (k2_9 < ((s2_8 : Nat) : Int))) = true then
  (if (0 : Int) ≤ k2_9 ∧ k2_9 < ((s2_8 : Nat) : Int) then (match s_10[s2_7 + k2_9.toNat]? with
  | some e11 => (if (0 : Int) ≤ IntKind.wrap .i64 (k2_9 - 1) ∧ IntKind.wrap .i64 (k2_9 - 1) < ((s2_8 : Nat) : Int) then (match s_10[s2_7 + (IntKind.wrap .i64 (k2_9 - 1)).toNat]? with
    | some e12 => (slices_Equal_Mark N e11 e12 (fun r13 =>
     if (!r13) = true then
  (if (0 : Int) ≤ k2_9 ∧ k2_9 < ((s2_8 : Nat) : Int) then (match s_10[s2_7 + k2_9.toNat]? with
   | some e14 => (if (0 : Int) ≤ k_6 ∧ k_6 < (s_10.length : Int) then (match s_10[k_6.toNat]? with
     | some e15 => (rec (IntKind.wrap .i64 (k_6 + 1)) (IntKind.wrap .i64 (k2_9 + 1)) (s_10.set k_6.toNat e14))
     | none => none) else none)
   | none => none) else none)
 else
  (rec k_6 (IntKind.wrap .i64 (k2_9 + 1)) s_10)))
    | none => none) else none)
  | none => none) else none)
 else
  (kp0 k_6 s_10)
noncomputable def slices_CompactFunc_Mark_l2 {R : Type} (N : Nat) (s2_7 s2_8 : Nat) (kp0 : Int → (List (List Mark)) → Option R) : Nat → Int → Int → (List (List Mark)) → Option R
 | 0 => fun _ _ _ => none
 | n + 1 => fun k_6 k2_9 s_10 => slices_CompactFunc_Mark_l2_b N s2_7 s2_8 kp0 (slices_CompactFunc_Mark_l2 N s2_7 s2_8 kp0 n) k_6 k2_9 s_10
noncomputable def slices_CompactFunc_Mark_l0_b {R : Type} (N : Nat) (s_2 : List (List Mark)) (kp0 : Option R) (kp1 : Nat → Nat → (List (List Mark)) → Option R) (rec : Int → Option R) (k_1 : Int) : Option R :=
 if (decide (k_1 < ((s_2.length : Nat) : Int))) = true then
  (if (0 : Int) ≤ k_1 ∧ k_1 < (s_2.length : Int) then (match s_2[k_1.toNat]? with
  | some e3 => (if (0 : Int) ≤ IntKind.wrap .i64 (k_1 - 1) ∧ IntKind.wrap .i64 (k_1 - 1) < (s_2.length : Int) then (match s_2[(IntKind.wrap .i64 (k_1 - 1)).toNat]? with
    | some e4 => (slices_Equal_Mark N e3 e4 (fun r5 =>
     if r5 = true then
  (if (0 : Int) ≤ k_1 ∧ k_1 ≤ ((s_2.length : Nat) : Int) ∧ ((s_2.length : Nat) : Int) ≤ ((s_2.length : Nat) : Int) then (slices_CompactFunc_Mark_l2 N k_1.toNat (((s_2.length : Nat) : Int).toNat - k_1.toNat) (fun y16 y17 =>
  if (0 : Int) ≤ y16 ∧ y16 ≤ ((y17.length : Nat) : Int) ∧ ((y17.length : Nat) : Int) ≤ ((y17.length : Nat) : Int) then (if y16.toNat + (((y17.length : Nat) : Int).toNat - y16.toNat) = y17.length ∧ (((y17.length : Nat) : Int).toNat - y16.toNat) ≠ 0 then (if (0 : Int) ≤ 0 ∧ 0 ≤ y16 ∧ y16 ≤ (((List.take y16.toNat y17 ++ List.replicate (((y17.length : Nat) : Int).toNat - y16.toNat) []).length : Nat) : Int) then (kp1 (Int.toNat 0) (y16.toNat - (Int.toNat 0)) (List.take y16.toNat y17 ++ List.replicate (((y17.length : Nat) : Int).toNat - y16.toNat) [])) else none) else none) else none) N k_1 1 s_2) else none)
 else
  (rec (IntKind.wrap .i64 (k_1 + 1)))))
    | none => none) else none)
  | none => none) else none)
 else
  (kp0 )
noncomputable def slices_CompactFunc_Mark_l0 {R : Type} (N : Nat) (s_2 : List (List Mark)) (kp0 : Option R) (kp1 : Nat → Nat → (List (List Mark)) → Option R) : Nat → Int → Option R
 | 0 => fun _ => none
 | n + 1 => fun k_1 => slices_CompactFunc_Mark_l0_b N s_2 kp0 kp1 (slices_CompactFunc_Mark_l0 N s_2 kp0 kp1 n) k_1
noncomputable def slices_CompactFunc_Mark {R : Type} (N : Nat) (s : List (List Mark)) (k0 : (List (List Mark)) → (List (List Mark)) → Option R) : Option R :=
 if (decide (((s.length : Nat) : Int) < 2)) = true then
  (k0 s s)
 else
  (slices_CompactFunc_Mark_l0 N s (k0 s s)
  (fun y18 y19 y20 =>
 k0 ((y20.drop y18).take y19) y20) N 1)
noncomputable def slices_CompactFunc_Mark_D (N : Nat) : FD E0 := { f := 24, fn := Tryz.f24, q := ⟨[.sw 0, .fn 25 []], [.rw .marks .own]⟩, loops := [{ cur := 2, live := [0, 1, 5, 6, 7], out := fun | .exit 2 => ([0, 5], []) | _ => ([], []), q := ⟨[.sw 0, .fn 25 [], .i .i64, .sl 0, .i .i64], [.rw .marks .own]⟩, G := fun R K n a b c d e => slices_CompactFunc_Mark_l2 N b c (pK ⟨[.sw 0, .i .i64], [.rw .marks .own]⟩ (K (.exit 2))) n a d e, B := fun R K rec a b c d e => slices_CompactFunc_Mark_l2_b N b c (pK ⟨[.sw 0, .i .i64], [.rw .marks .own]⟩ (K (.exit 2))) (fun a d e => rec a b c d e) a d e }, { cur := 0, live := [0, 1, 5], out := fun | .exit 0 => ([0], []) | .ret => ([4], []) | _ => ([], []), q := ⟨[.sw 0, .fn 25 [], .i .i64], [.rw .marks .own]⟩, G := fun R K n a b => slices_CompactFunc_Mark_l0 N b (pK ⟨[.sw 0], [.rw .marks .own]⟩ (K (.exit 0)) b) (pK ⟨[.sl 0], [.rw .marks .own]⟩ (K .ret)) n a, B := fun R K rec a b => slices_CompactFunc_Mark_l0_b N b (pK ⟨[.sw 0], [.rw .marks .own]⟩ (K (.exit 0)) b) (pK ⟨[.sl 0], [.rw .marks .own]⟩ (K .ret)) (fun a => rec a b) a }], g := [slices_Equal_Mark_S N], exit := [(⟨4, []⟩, .tree .marks)] }
noncomputable def slices_CompactFunc_Mark_S (N : Nat) : OC E0 := ⟨_, FD.ct e0 (slices_CompactFunc_Mark_D N) N (fun R k a => slices_CompactFunc_Mark N a (oK ⟨.t .marks, [.rw .marks .ro], []⟩ k))⟩
noncomputable def effect_Ways_l0_b {R : Type} (N : Nat) (r_51 r_52 r_53 : List (List UInt8)) (r_54 : List Node) (r_55 : Bool) (o_56 : List Next) (o_57 : List Int) (o_58 : List (List Sc × Int × Nat)) (o_59 : Nat) (b_60 : Bool) (o_61 : List (List Sc × Bool × Nat)) (o_62 : Nat) (o_63 : List (List Sc × Bool × Nat)) (o_64 v_66 : Nat) (kp0 : (List (List Mark)) → Option R) (rec : (List (List Mark)) → (List Nat) → Nat → Option R) (out_65 : List (List Mark)) (v_67 : List Nat) (v_68 : Nat) : Option R :=
 nextC v_66 v_67 v_68 o_61 (kp0 out_65) fun n69 =>
 if o_62 = o_62 then (match findB n69.2.2 o_61 with
 | some en70 => (effect_rows_marks N (scI en70.1) r_51 r_52 r_53 r_54 r_55 o_56 o_57 o_58 o_59 (fun r71 =>
 if out_65.length + [r71].length ≤ maxRow then (rec (out_65 ++ [r71]) (n69.2.2 :: v_67) o_62) else none))
 | none => none) else none
noncomputable def effect_Ways_l0 {R : Type} (N : Nat) (r_51 r_52 r_53 : List (List UInt8)) (r_54 : List Node) (r_55 : Bool) (o_56 : List Next) (o_57 : List Int) (o_58 : List (List Sc × Int × Nat)) (o_59 : Nat) (b_60 : Bool) (o_61 : List (List Sc × Bool × Nat)) (o_62 : Nat) (o_63 : List (List Sc × Bool × Nat)) (o_64 v_66 : Nat) (kp0 : (List (List Mark)) → Option R) : Nat → (List (List Mark)) → (List Nat) → Nat → Option R
 | 0 => fun _ _ _ => none
 | n + 1 => fun out_65 v_67 v_68 => effect_Ways_l0_b N r_51 r_52 r_53 r_54 r_55 o_56 o_57 o_58 o_59 b_60 o_61 o_62 o_63 o_64 v_66 kp0 (effect_Ways_l0 N r_51 r_52 r_53 r_54 r_55 o_56 o_57 o_58 o_59 b_60 o_61 o_62 o_63 o_64 v_66 kp0 n) out_65 v_67 v_68
noncomputable def effect_Ways_l2_b {R : Type} (N : Nat) (r_73 r_74 r_75 : List (List UInt8)) (r_76 : List Node) (r_77 : Bool) (o_78 : List Next) (o_79 : List Int) (o_80 : List (List Sc × Int × Nat)) (o_81 v_83 : Nat) (o_86 : List (List Sc × Bool × Nat)) (o_87 : Nat) (kp0 : (List (List Mark)) → Option R) (rec : (List (List Mark)) → (List Nat) → Nat → Option R) (out_82 : List (List Mark)) (v_84 : List Nat) (v_85 : Nat) : Option R :=
 nextC v_83 v_84 v_85 o_86 (kp0 out_82) fun n88 =>
 if o_87 = o_87 then (match findB n88.2.2 o_86 with
 | some en89 => (effect_rows_marks N (scI en89.1) r_73 r_74 r_75 r_76 r_77 o_78 o_79 o_80 o_81 (fun r90 =>
 if r90.length + ([(⟨(-1), [101, 114, 114, 111, 114]⟩ : Mark)]).length ≤ maxRow then (if out_82.length + ([r90 ++ ([(⟨(-1), [101, 114, 114, 111, 114]⟩ : Mark)])]).length ≤ maxRow then (rec (out_82 ++ ([r90 ++ ([(⟨(-1), [101, 114, 114, 111, 114]⟩ : Mark)])])) (n88.2.2 :: v_84) o_87) else none) else none))
 | none => none) else none
noncomputable def effect_Ways_l2 {R : Type} (N : Nat) (r_73 r_74 r_75 : List (List UInt8)) (r_76 : List Node) (r_77 : Bool) (o_78 : List Next) (o_79 : List Int) (o_80 : List (List Sc × Int × Nat)) (o_81 v_83 : Nat) (o_86 : List (List Sc × Bool × Nat)) (o_87 : Nat) (kp0 : (List (List Mark)) → Option R) : Nat → (List (List Mark)) → (List Nat) → Nat → Option R
 | 0 => fun _ _ _ => none
 | n + 1 => fun out_82 v_84 v_85 => effect_Ways_l2_b N r_73 r_74 r_75 r_76 r_77 o_78 o_79 o_80 o_81 v_83 o_86 o_87 kp0 (effect_Ways_l2 N r_73 r_74 r_75 r_76 r_77 o_78 o_79 o_80 o_81 v_83 o_86 o_87 kp0 n) out_82 v_84 v_85
noncomputable def effect_Ways_c5 {R : Type} (N : Nat) (r_17 r_18 r_19 : List (List UInt8)) (r_20 : List Node) (r_21 : Bool) (o_22 : List Next) (o_23 : List Int) (o_24 : List (List Sc × Int × Nat)) (o_25 : Nat) (b_26 : Bool) (o_27 : List (List Sc × Bool × Nat)) (o_28 : Nat) (o_29 : List (List Sc × Bool × Nat)) (o_30 : Nat) (kp0 : Int → Option R) (kp1 : (List (List Mark)) → Int → Option R) : Option R :=
 if r_21 = true then
  (kp0 15)
 else
  (effect_Ways_l0 N r_17 r_18 r_19 r_20 r_21 o_22 o_23 o_24 o_25 b_26 o_27 o_28 o_29 o_30 o_28 (fun y72 =>
 effect_Ways_l2 N r_17 r_18 r_19 r_20 r_21 o_22 o_23 o_24 o_25 o_30 o_29 o_30 (fun y91 =>
 slices_SortFunc_Mark N y91 (fun r92 =>
 slices_CompactFunc_Mark N r92 (fun r93 r94 =>
 kp1 r93 0))) N y72 [] o_30) N ([] : List (List Mark)) [] o_28)
noncomputable def effect_Ways {R : Type} (N : Nat) (l : List Act) (Vars Ports Timers : List (List UInt8)) (Nodes : List Node) (fuel : Int) (k0 : (List (List Mark)) → Int → Option R) : Option R :=
 effect_rows_inner N l Vars Ports Timers Nodes false ([(⟨0, (⟨0, []⟩ : Mark)⟩ : Next)]) [0] ([] : List (List Sc × Int × Nat)) 0 (fun r1 r2 r3 r4 r5 r6 r7 r8 r9 r10 =>
 (ifB (!r1) true (code_Block N l Vars Ports Timers Nodes (fun r11 =>
 code_Most N r11 (fun r12 =>
 some (decide (r12 > fuel))))) (some false)).bind fun c13 =>
 if c13 = true then
  (effect_rows_cut (N + 3) Vars Ports Timers Nodes r1 r4 r5 r2 r3 r6 r7 r8 r9 r10 (fun r14 r15 r16 =>
  effect_Ways_c5 N Vars Ports Timers Nodes r14 r4 r5 r2 r3 r6 r7 r8 r15 r16 (fun y95 =>
  k0 ([] : List (List Mark)) y95)
   (fun y96 y97 =>
  k0 y96 y97)))
 else
  (effect_Ways_c5 N Vars Ports Timers Nodes r1 r4 r5 r2 r3 r6 r7 r8 r9 r10 (fun y98 =>
  k0 ([] : List (List Mark)) y98)
   (fun y99 y100 =>
  k0 y99 y100)))
noncomputable def effect_Ways_D (N : Nat) : FD E0 := { f := 8, fn := Tryz.f8, q := ⟨[.t .act, y1, .i .i64], []⟩, loops := [{ cur := 0, live := [8, 9, 10, 47], fix := [(⟨10, []⟩, .row .marks .own)], out := fun | .exit 0 => ([8, 9, 10], []) | _ => ([], []), q := ⟨[.p 0 0 0, .p 4 0 0, .sw 7, .p 8 0 0], [z32, .rw .next .app, .rw .int .app, z33, .bx [.m 5, .m 6, .b], .mx false [.int .i64] false .bool, .mx false [.int .i64] false .bool, .rw .marks .own, .it 5]⟩, G := fun R K n a b c d e g h i j l m o p q s t u v => effect_Ways_l0 N a b c d e g h i j l m o p q t (pK ⟨[.p 0 0 0, .p 4 0 0, .sw 7], [z32, .rw .next .app, .rw .int .app, z33, .bx [.m 5, .m 6, .b], .mx false [.int .i64] false .bool, .mx false [.int .i64] false .bool, .rw .marks .own]⟩ (K (.exit 0)) a b c d e g h i j l m o p q) n s u v, B := fun R K rec a b c d e g h i j l m o p q s t u v => effect_Ways_l0_b N a b c d e g h i j l m o p q t (pK ⟨[.p 0 0 0, .p 4 0 0, .sw 7], [z32, .rw .next .app, .rw .int .app, z33, .bx [.m 5, .m 6, .b], .mx false [.int .i64] false .bool, .mx false [.int .i64] false .bool, .rw .marks .own]⟩ (K (.exit 0)) a b c d e g h i j l m o p q) (fun s u v => rec a b c d e g h i j l m o p q s t u v) s u v }, { cur := 2, live := [8, 10, 62], out := fun | .exit 2 => ([10], []) | _ => ([], []), q := ⟨[.p 0 0 0, .sw 4, .p 5 0 0], [z32, .rw .next .app, .rw .int .app, z33, .rw .marks .own, .it 6, .mx false [.int .i64] false .bool]⟩, G := fun R K n a b c d e g h i j l m o p q s => effect_Ways_l2 N a b c d e g h i j m q s (pK ⟨[.sw 0], [.rw .marks .own]⟩ (K (.exit 2))) n l o p, B := fun R K rec a b c d e g h i j l m o p q s => effect_Ways_l2_b N a b c d e g h i j m q s (pK ⟨[.sw 0], [.rw .marks .own]⟩ (K (.exit 2))) (fun l o p => rec a b c d e g h i j l m o p q s) l o p }], cuts := [{ key := 5, live := [8, 9], out := fun | .ret => ([6, 7], []) | _ => ([], []), q := ⟨[.p 0 0 0, .p 4 0 0], [z32, .rw .next .app, .rw .int .app, z33, .bx [.m 5, .m 6, .b], .mx false [.int .i64] false .bool, .mx false [.int .i64] false .bool]⟩, G := fun R K a b c d e g h i j l m o p q => effect_Ways_c5 N a b c d e g h i j l m o p q (pK ⟨[.ns, .i .i64], []⟩ (K .ret)) (pK ⟨[.t .marks, .i .i64], []⟩ (K .ret)) }], g := [code_Most_S N, code_Block_S N, effect_rows_marks_S N, slices_SortFunc_Mark_S N, slices_CompactFunc_Mark_S N], gm := [effect_rows_inner_S N, effect_rows_cut_S N], nd := true, mode := fun | 57 => .own | 75 => .own | _ => .app, exit := [(⟨6, []⟩, .tree .marks)] }
noncomputable def effect_Ways_S (N : Nat) : OCM E0 := ⟨_, FD.ctm e0 (effect_Ways_D N) N (fun R k a b c d e g => effect_Ways N a b c d e g (oK ⟨.tp [.t .marks, .i .i64], [], []⟩ k))⟩
noncomputable def r37_Event {R : Type} (N : Nat) (k_ : Int) (k0 : (List UInt8) → Option R) : Option R :=
 r37_Place N k_ 8 (fun r1 =>
 (at? [[103, 111], [112, 105, 110, 103], [112, 111, 110, 103], [101, 114, 114, 111, 114], [116, 48], [98, 97, 108, 108], [103, 111], [112, 105, 110, 103]] r1).bind fun e2 =>
 k0 e2)
noncomputable def r37_Event_D (N : Nat) : FD E0 := { f := 16, fn := Tryz.f16, q := ⟨[.i .i64], []⟩, g := [r37_Place_S N] }
noncomputable def r37_Event_S (N : Nat) : OC E0 := ⟨_, FD.ct e0 (r37_Event_D N) N (fun R k a => r37_Event N a (oK ⟨.st, [], []⟩ k))⟩
structure Fam_r37_Block where
 r37_Block : (R : Type) → (List (List UInt8)) → (List (List UInt8)) → (List (List UInt8)) → (List (List UInt8)) → Int → (List Int) → Int → ((List Act) → Int → Option R) → Option R
def r37_Block_q : Pat S := ⟨[.p 0 0 0, y0, .i .i64], [.bx [.t .int, .i .i64]]⟩
noncomputable def r37_Block_C (F : Fam_r37_Block) : Ct S := ⟨6, r37_Block_q, fun R k a b c d e g h => F.r37_Block R a b c d e g h (fun i => oK ⟨.t .act, [.bx [.t .int, .i .i64]], []⟩ k i g)⟩
structure Fam_r37_Block_ok (F : Fam_r37_Block) : Prop where
 r37_Block : (r37_Block_C F).ok E0
noncomputable def r37_Block_l0_b (F : Fam_r37_Block) {R : Type} (N : Nat) (deep_22 : Int) (r_24 : List Int) (s_26 s_27 s_28 s_29 : List (List UInt8)) (kp0 : Int → (List Act) → Option R) (rec : Int → Int → (List Act) → Option R) (n_23 r_25 : Int) (out_30 : List Act) : Option R :=
 if (decide (n_23 > 0)) = true then
  (r37_Row_Next N 10 r_24 r_25 (fun r31 r32 =>
 r37_Expr N s_26 s_27 s_28 s_29 2 r_24 r32 (fun r33 r34 r35 r36 r37 r38 =>
 (ifB (decide (r31 < 3)) true (some (decide (((s_26.length : Nat) : Int) > 0))) (some false)).bind fun c39 =>
 if c39 = true then
  (r37_pick N s_26 [] r_24 r38 (fun r40 r41 =>
  if out_30.length + ([(⟨1, r40, [], [(⟨r33, r34, r35, r36, r37⟩ : Expr)], 0, [], [], 0⟩ : Act)]).length ≤ maxRow then (rec (IntKind.wrap .i64 (n_23 - 1)) r41 (out_30 ++ ([(⟨1, r40, [], [(⟨r33, r34, r35, r36, r37⟩ : Expr)], 0, [], [], 0⟩ : Act)]))) else none))
 else
  (if (r31 == 3) = true then
   (r37_Row_Next N 8 r_24 r38 (fun r42 r43 =>
   r37_Event N r42 (fun r44 =>
   r37_Row_Next N 2 r_24 r43 (fun r45 r46 =>
   if (0 : Int) ≤ 0 ∧ 0 ≤ r45 ∧ r45 ≤ (([(⟨r33, r34, r35, r36, r37⟩ : Expr)].length : Nat) : Int) then (if out_30.length + ([(⟨2, [], r44, ([(⟨r33, r34, r35, r36, r37⟩ : Expr)].drop (Int.toNat 0)).take (r45.toNat - (Int.toNat 0)), 0, [], [], 0⟩ : Act)]).length ≤ maxRow then (rec (IntKind.wrap .i64 (n_23 - 1)) r46 (out_30 ++ ([(⟨2, [], r44, ([(⟨r33, r34, r35, r36, r37⟩ : Expr)].drop (Int.toNat 0)).take (r45.toNat - (Int.toNat 0)), 0, [], [], 0⟩ : Act)]))) else none) else none))))
  else
   ((ifB (decide (r31 < 7)) true (some (decide (((s_27.length : Nat) : Int) > 0))) (some false)).bind fun c47 =>
   if c47 = true then
    (r37_pick N s_27 [] r_24 r38 (fun r48 r49 =>
    r37_Row_Next N 3 r_24 r49 (fun r50 r51 =>
    r37_Event N r50 (fun r52 =>
    r37_Row_Next N 2 r_24 r51 (fun r53 r54 =>
    if (0 : Int) ≤ 0 ∧ 0 ≤ r53 ∧ r53 ≤ (([(⟨r33, r34, r35, r36, r37⟩ : Expr)].length : Nat) : Int) then (if out_30.length + ([(⟨3, r48, r52, ([(⟨r33, r34, r35, r36, r37⟩ : Expr)].drop (Int.toNat 0)).take (r53.toNat - (Int.toNat 0)), 0, [], [], 0⟩ : Act)]).length ≤ maxRow then (rec (IntKind.wrap .i64 (n_23 - 1)) r54 (out_30 ++ ([(⟨3, r48, r52, ([(⟨r33, r34, r35, r36, r37⟩ : Expr)].drop (Int.toNat 0)).take (r53.toNat - (Int.toNat 0)), 0, [], [], 0⟩ : Act)]))) else none) else none)))))
   else
    ((ifB (r31 == 7) true (some (decide (((s_28.length : Nat) : Int) > 0))) (some false)).bind fun c55 =>
    if c55 = true then
     (r37_pick N s_28 [] r_24 r38 (fun r56 r57 =>
     r37_Row_Next N 3 r_24 r57 (fun r58 r59 =>
     if out_30.length + ([(⟨4, r56, [], [(⟨1, IntKind.wrap .i64 (1 + r58), [], [], 0⟩ : Expr)], 0, [], [], 0⟩ : Act)]).length ≤ maxRow then (rec (IntKind.wrap .i64 (n_23 - 1)) r59 (out_30 ++ ([(⟨4, r56, [], [(⟨1, IntKind.wrap .i64 (1 + r58), [], [], 0⟩ : Expr)], 0, [], [], 0⟩ : Act)]))) else none)))
    else
     ((ifB (r31 == 8) true (some (decide (((s_28.length : Nat) : Int) > 0))) (some false)).bind fun c60 =>
     if c60 = true then
      (r37_pick N s_28 [] r_24 r38 (fun r61 r62 =>
      if out_30.length + ([(⟨5, r61, [], [], 0, [], [], 0⟩ : Act)]).length ≤ maxRow then (rec (IntKind.wrap .i64 (n_23 - 1)) r62 (out_30 ++ ([(⟨5, r61, [], [], 0, [], [], 0⟩ : Act)]))) else none))
     else
      ((ifB (decide (deep_22 > 0)) true (some ((Int.tmod r31 2) == 0)) (some false)).bind fun c63 =>
      if c63 = true then
       (F.r37_Block _ s_26 s_27 s_28 s_29 (IntKind.wrap .i64 (deep_22 - 1)) r_24 r38 (fun r64 r65 =>
       F.r37_Block _ s_26 s_27 s_28 s_29 (IntKind.wrap .i64 (deep_22 - 1)) r_24 r65 (fun r66 r67 =>
       if out_30.length + ([(⟨6, [], [], [(⟨r33, r34, r35, r36, r37⟩ : Expr)], 0, r64, r66, 0⟩ : Act)]).length ≤ maxRow then (rec (IntKind.wrap .i64 (n_23 - 1)) r67 (out_30 ++ ([(⟨6, [], [], [(⟨r33, r34, r35, r36, r37⟩ : Expr)], 0, r64, r66, 0⟩ : Act)]))) else none)))
      else
       (if (decide (deep_22 > 0)) = true then
        (r37_Row_Next N 4 r_24 r38 (fun r68 r69 =>
        F.r37_Block _ s_26 s_27 s_28 s_29 (IntKind.wrap .i64 (deep_22 - 1)) r_24 r69 (fun r70 r71 =>
        if out_30.length + ([(⟨7, [], [], [], IntKind.wrap .i64 (1 + r68), r70, [], 0⟩ : Act)]).length ≤ maxRow then (rec (IntKind.wrap .i64 (n_23 - 1)) r71 (out_30 ++ ([(⟨7, [], [], [], IntKind.wrap .i64 (1 + r68), r70, [], 0⟩ : Act)]))) else none)))
       else
        (rec (IntKind.wrap .i64 (n_23 - 1)) r38 out_30))))))))))
 else
  (kp0 r_25 out_30)
noncomputable def r37_Block_l0 (F : Fam_r37_Block) {R : Type} (N : Nat) (deep_22 : Int) (r_24 : List Int) (s_26 s_27 s_28 s_29 : List (List UInt8)) (kp0 : Int → (List Act) → Option R) : Nat → Int → Int → (List Act) → Option R
 | 0 => fun _ _ _ => none
 | n + 1 => fun n_23 r_25 out_30 => r37_Block_l0_b F N deep_22 r_24 s_26 s_27 s_28 s_29 kp0 (r37_Block_l0 F N deep_22 r_24 s_26 s_27 s_28 s_29 kp0 n) n_23 r_25 out_30
noncomputable def r37_Block_d (F : Fam_r37_Block) {R : Type} (N : Nat) (Vars Ports Timers States : List (List UInt8)) (deep : Int) (L : List Int) (At : Int) (k0 : (List Act) → Int → Option R) : Option R :=
 r37_Row_Next N 3 L At (fun r1 r2 =>
 r37_Block_l0 F N deep L Vars Ports Timers States (fun y72 y73 =>
 k0 y73 y72) N r1 r2 ([] : List Act))
noncomputable def r37_Block_D (F : Fam_r37_Block) (hF : Fam_r37_Block_ok F) (N : Nat) : FD E0 := { f := 6, fn := Tryz.f6, q := r37_Block_q, loops := [{ cur := 0, live := [0, 2, 4, 7, 8], fix := [(⟨7, []⟩, .row .act .app)], out := fun | .exit 0 => ([7], []) | _ => ([], []), q := ⟨[.p 0 0 0, .i .i64, .p 1 0 0, .sw 2, .i .i64], [.bx [.t .int, .i .i64], z7, .rw .act .app]⟩, G := fun R K n a b c d e g h i j => r37_Block_l0 F N a c e g h i (pK ⟨[.sw 1], [.bx [.t .int, .i .i64], .rw .act .app]⟩ (K (.exit 0)) c) n b d j, B := fun R K rec a b c d e g h i j => r37_Block_l0_b F N a c e g h i (pK ⟨[.sw 1], [.bx [.t .int, .i .i64], .rw .act .app]⟩ (K (.exit 0)) c) (fun b d j => rec a b c d e g h i j) b d j }], g := [⟨r37_Block_C F, hF.r37_Block⟩, r37_Row_Next_S N, r37_Expr_S N, r37_pick_S N, r37_Event_S N], exit := [(⟨6, []⟩, .tree .act)] }
theorem r37_Block_okF (F : Fam_r37_Block) (hF : Fam_r37_Block_ok F) (N : Nat) : Ct.ok E0 ⟨(r37_Block_D F hF N).f, (r37_Block_D F hF N).q, fun R k a b c d e g h => r37_Block_d F N a b c d e g h (fun i => oK ⟨.t .act, [.bx [.t .int, .i .i64]], []⟩ k i g)⟩ := FD.ct e0 (r37_Block_D F hF N) N (fun R k a b c d e g h => r37_Block_d F N a b c d e g h (fun i => oK ⟨.t .act, [.bx [.t .int, .i .i64]], []⟩ k i g))
noncomputable def Fam_r37_Block_next (F : Fam_r37_Block) (N : Nat) : Fam_r37_Block where
 r37_Block := fun R Vars Ports Timers States deep L At k0 => r37_Block_d F N Vars Ports Timers States deep L At k0
noncomputable def Fam_r37_Block_at (N : Nat) : Nat → Fam_r37_Block
 | 0 => { r37_Block := fun _ _ _ _ _ _ _ _ _ => none }
 | d + 1 => Fam_r37_Block_next (Fam_r37_Block_at N d) N
theorem Fam_r37_Block_at_ok (N : Nat) : ∀ d, Fam_r37_Block_ok (Fam_r37_Block_at N d)
 | 0 => { r37_Block := Ct.ok_none }
 | d + 1 => { r37_Block := r37_Block_okF _ (Fam_r37_Block_at_ok N d) N }
noncomputable def r37_Block {R : Type} (N : Nat) (Vars Ports Timers States : List (List UInt8)) (deep : Int) (L : List Int) (At : Int) (k0 : (List Act) → Int → Option R) : Option R := (Fam_r37_Block_at N N).r37_Block R Vars Ports Timers States deep L At k0
noncomputable def r37_Block_S (N : Nat) : OC E0 := ⟨r37_Block_C (Fam_r37_Block_at N N), (Fam_r37_Block_at_ok N N).r37_Block⟩
noncomputable def r16_place_l0_b {R : Type} (N : Nat) (l_1 : List (List UInt8)) (s_2 : List UInt8) (kp0 : Option R) (kp1 : Int → Option R) (rec : Int → Option R) (i_3 : Int) : Option R :=
 if (decide (i_3 < ((l_1.length : Nat) : Int))) = true then
  ((at? l_1 i_3).bind fun e4 =>
 if (e4 == s_2) = true then
  (kp1 i_3)
 else
  (rec (IntKind.wrap .i64 (i_3 + 1))))
 else
  (kp0 )
noncomputable def r16_place_l0 {R : Type} (N : Nat) (l_1 : List (List UInt8)) (s_2 : List UInt8) (kp0 : Option R) (kp1 : Int → Option R) : Nat → Int → Option R
 | 0 => fun _ => none
 | n + 1 => fun i_3 => r16_place_l0_b N l_1 s_2 kp0 kp1 (r16_place_l0 N l_1 s_2 kp0 kp1 n) i_3
noncomputable def r16_place {R : Type} (N : Nat) (l : List (List UInt8)) (s : List UInt8) (k0 : Int → Option R) : Option R :=
 r16_place_l0 N l s (k0 (-1))
  (fun y5 =>
 k0 y5) N 0
noncomputable def r16_place_D (N : Nat) : FD E0 := { f := 81, fn := Tryz.f81, q := ⟨[.t .str, .st], []⟩, loops := [{ cur := 0, live := [0, 1, 5], out := fun | .exit 0 => ([], []) | .ret => ([4], []) | _ => ([], []), q := ⟨[.t .str, .st, .i .i64], []⟩, G := fun R K n a b c => r16_place_l0 N a b (pK ⟨[], []⟩ (K (.exit 0))) (pK ⟨[.i .i64], []⟩ (K .ret)) n c, B := fun R K rec a b c => r16_place_l0_b N a b (pK ⟨[], []⟩ (K (.exit 0))) (pK ⟨[.i .i64], []⟩ (K .ret)) (rec a b) c }] }
noncomputable def r16_place_S (N : Nat) : OC E0 := ⟨_, FD.ct e0 (r16_place_D N) N (fun R k a b => r16_place N a b (oK ⟨.i .i64, [], []⟩ k))⟩
noncomputable def r13_Find_l0_b {R : Type} (N : Nat) (l_1 : List Node) (name_2 : List UInt8) (kp0 : Option R) (kp1 : Int → Option R) (rec : Int → Option R) (i_3 : Int) : Option R :=
 if (decide (i_3 < ((l_1.length : Nat) : Int))) = true then
  ((at? l_1 i_3).bind fun e4 =>
 if (e4.Name == name_2) = true then
  (kp1 i_3)
 else
  (rec (IntKind.wrap .i64 (i_3 + 1))))
 else
  (kp0 )
noncomputable def r13_Find_l0 {R : Type} (N : Nat) (l_1 : List Node) (name_2 : List UInt8) (kp0 : Option R) (kp1 : Int → Option R) : Nat → Int → Option R
 | 0 => fun _ => none
 | n + 1 => fun i_3 => r13_Find_l0_b N l_1 name_2 kp0 kp1 (r13_Find_l0 N l_1 name_2 kp0 kp1 n) i_3
noncomputable def r13_Find {R : Type} (N : Nat) (l : List Node) (name : List UInt8) (k0 : Int → Option R) : Option R :=
 r13_Find_l0 N l name (k0 (-1))
  (fun y5 =>
 k0 y5) N 1
noncomputable def r13_Find_D (N : Nat) : FD E0 := { f := 98, fn := Tryz.f98, q := ⟨[.t .node, .st], []⟩, loops := [{ cur := 0, live := [0, 1, 5], out := fun | .exit 0 => ([], []) | .ret => ([4], []) | _ => ([], []), q := ⟨[.t .node, .st, .i .i64], []⟩, G := fun R K n a b c => r13_Find_l0 N a b (pK ⟨[], []⟩ (K (.exit 0))) (pK ⟨[.i .i64], []⟩ (K .ret)) n c, B := fun R K rec a b c => r13_Find_l0_b N a b (pK ⟨[], []⟩ (K (.exit 0))) (pK ⟨[.i .i64], []⟩ (K .ret)) (rec a b) c }] }
noncomputable def r13_Find_S (N : Nat) : OC E0 := ⟨_, FD.ct e0 (r13_Find_D N) N (fun R k a b => r13_Find N a b (oK ⟨.i .i64, [], []⟩ k))⟩
noncomputable def r16_op {R : Type} (N : Nat) (k_ : Int) (k0 : Int → Option R) : Option R :=
 if (k_ == 5) = true then
  (k0 5)
 else
  (if (k_ == 6) = true then
   (k0 6)
  else
   (k0 (IntKind.wrap .i64 ((IntKind.wrap .i64 (7 + k_)) - 7))))
noncomputable def r16_op_D (N : Nat) : FD E0 := { f := 99, fn := Tryz.f99, q := ⟨[.i .i64], []⟩ }
noncomputable def r16_op_S (N : Nat) : OC E0 := ⟨_, FD.ct e0 (r16_op_D N) N (fun R k a => r16_op N a (oK ⟨.i .i64, [], []⟩ k))⟩
structure Fam_r16_expr_2 where
 r16_expr_2 : (R : Type) → Int → Int → (List UInt8) → (List Expr) → Int → (List (List UInt8)) → (List (List UInt8)) → (List (List UInt8)) → (List Node) → (List Ins) → ((List Ins) → Option R) → Option R
 r16_and_2 : (R : Type) → Int → Int → (List UInt8) → (List Expr) → Int → (List (List UInt8)) → (List (List UInt8)) → (List (List UInt8)) → (List Node) → (List Ins) → ((List Ins) → Option R) → Option R
 r16_or_2 : (R : Type) → Int → Int → (List UInt8) → (List Expr) → Int → (List (List UInt8)) → (List (List UInt8)) → (List (List UInt8)) → (List Node) → (List Ins) → ((List Ins) → Option R) → Option R
def r16_expr_2_q : Pat S := ⟨[.sw 0, y2, y1], [.rw .ins .own]⟩
noncomputable def r16_expr_2_C (F : Fam_r16_expr_2) : Ct S := ⟨82, r16_expr_2_q, fun R k a b c d e g h i j l => F.r16_expr_2 R a b c d e g h i j l (oK ⟨.sw 1, [.g], [.rw .ins .own]⟩ k)⟩
def r16_and_2_q : Pat S := ⟨[.sw 0, y2, y1], [.rw .ins .own]⟩
noncomputable def r16_and_2_C (F : Fam_r16_expr_2) : Ct S := ⟨100, r16_and_2_q, fun R k a b c d e g h i j l => F.r16_and_2 R a b c d e g h i j l (oK ⟨.sw 1, [.g], [.rw .ins .own]⟩ k)⟩
def r16_or_2_q : Pat S := ⟨[.sw 0, y2, y1], [.rw .ins .own]⟩
noncomputable def r16_or_2_C (F : Fam_r16_expr_2) : Ct S := ⟨101, r16_or_2_q, fun R k a b c d e g h i j l => F.r16_or_2 R a b c d e g h i j l (oK ⟨.sw 1, [.g], [.rw .ins .own]⟩ k)⟩
structure Fam_r16_expr_2_ok (F : Fam_r16_expr_2) : Prop where
 r16_expr_2 : (r16_expr_2_C F).ok E0
 r16_and_2 : (r16_and_2_C F).ok E0
 r16_or_2 : (r16_or_2_C F).ok E0
def z37 : ShO S := .bx [.t .str, .t .str, .t .str, .t .node]
noncomputable def r16_expr_2_c12 (F : Fam_r16_expr_2) {R : Type} (N : Nat) (v_3 : Int) (v_4 : Bool) (c_5 : List Ins) (e_6 e_7 : Int) (e_8 : List UInt8) (e_9 : List Expr) (e_10 : Int) (n_11 n_12 n_13 : List (List UInt8)) (n_14 : List Node) (kp0 : (List Ins) → Option R) (kp1 : Option R) : Option R :=
 if v_4 = true then
  ((at? e_9 0).bind fun e15 =>
  F.r16_expr_2 _ e15.Kind e15.N e15.Name e15.Kids e15.At n_11 n_12 n_13 n_14 c_5 (fun r16 =>
  r16_op N e_6 (fun r17 =>
  if r16.length + ([(⟨r17, 0, 0, []⟩ : Ins)]).length ≤ maxRow then (kp0 (r16 ++ ([(⟨r17, 0, 0, []⟩ : Ins)]))) else none)))
 else
  (if (v_3 == 18) = true then
   (F.r16_and_2 _ e_6 e_7 e_8 e_9 e_10 n_11 n_12 n_13 n_14 c_5 (fun r18 =>
   kp0 r18))
  else
   (if (v_3 == 19) = true then
    (F.r16_or_2 _ e_6 e_7 e_8 e_9 e_10 n_11 n_12 n_13 n_14 c_5 (fun r19 =>
    kp0 r19))
   else
    (kp1 )))
noncomputable def r16_expr_2_c17 (F : Fam_r16_expr_2) {R : Type} (N : Nat) (c_21 : List Ins) (e_22 e_23 : Int) (e_24 : List UInt8) (e_25 : List Expr) (e_26 : Int) (n_27 n_28 n_29 : List (List UInt8)) (n_30 : List Node) (kp0 : (List Ins) → Option R) : Option R :=
 (at? e_25 0).bind fun e31 =>
 F.r16_expr_2 _ e31.Kind e31.N e31.Name e31.Kids e31.At n_27 n_28 n_29 n_30 c_21 (fun r32 =>
 (at? e_25 1).bind fun e33 =>
 F.r16_expr_2 _ e33.Kind e33.N e33.Name e33.Kids e33.At n_27 n_28 n_29 n_30 r32 (fun r34 =>
 r16_op N e_22 (fun r35 =>
 if r34.length + ([(⟨r35, 0, 0, []⟩ : Ins)]).length ≤ maxRow then (kp0 (r34 ++ ([(⟨r35, 0, 0, []⟩ : Ins)]))) else none)))
noncomputable def r16_expr_2_d (F : Fam_r16_expr_2) {R : Type} (N : Nat) (Kind N_ : Int) (Name : List UInt8) (Kids : List Expr) (At : Int) (Vars Ports Timers : List (List UInt8)) (Nodes : List Node) (c : List Ins) (k0 : (List Ins) → Option R) : Option R :=
 if (Kind == 1) = true then
  (if c.length + ([(⟨1, 0, N_, []⟩ : Ins)]).length ≤ maxRow then (k0 (c ++ ([(⟨1, 0, N_, []⟩ : Ins)]))) else none)
 else
  (if (Kind == 2) = true then
   (r16_place N Vars Name (fun r1 =>
   if c.length + ([(⟨2, r1, 0, []⟩ : Ins)]).length ≤ maxRow then (k0 (c ++ ([(⟨2, r1, 0, []⟩ : Ins)]))) else none))
  else
   (if (Kind == 3) = true then
    (if c.length + ([(⟨3, 0, 0, []⟩ : Ins)]).length ≤ maxRow then (k0 (c ++ ([(⟨3, 0, 0, []⟩ : Ins)]))) else none)
   else
    (if (Kind == 4) = true then
     (r13_Find N Nodes Name (fun r2 =>
     if c.length + ([(⟨4, r2, 0, []⟩ : Ins)]).length ≤ maxRow then (k0 (c ++ ([(⟨4, r2, 0, []⟩ : Ins)]))) else none))
    else
     (if (Kind == 5) = true then
      (r16_expr_2_c12 F N Kind (Kind == 5) c Kind N_ Name Kids At Vars Ports Timers Nodes (fun y20 =>
      k0 y20)
       (r16_expr_2_c17 F N c Kind N_ Name Kids At Vars Ports Timers Nodes (fun y36 =>
       k0 y36)))
     else
      (r16_expr_2_c12 F N Kind (Kind == 6) c Kind N_ Name Kids At Vars Ports Timers Nodes (fun y37 =>
      k0 y37)
       (r16_expr_2_c17 F N c Kind N_ Name Kids At Vars Ports Timers Nodes (fun y38 =>
       k0 y38)))))))
noncomputable def r16_expr_2_D (F : Fam_r16_expr_2) (hF : Fam_r16_expr_2_ok F) (N : Nat) : FD E0 := { f := 82, fn := Tryz.f82, q := r16_expr_2_q, cuts := [{ key := 12, live := [0, 4, 5, 8, 45], out := fun | .ret => ([6], []) | .normal => ([0, 4, 5], []) | _ => ([], []), q := ⟨[.sw 0, .p 1 0 0, .p 2 0 0, .i .i64, .b], [.rw .ins .own, z0, z37]⟩, G := fun R K a b c d e g h i j l m o => r16_expr_2_c12 F N a b c d e g h i j l m o (pK ⟨[.sw 1], [.g, .rw .ins .own]⟩ (K .ret)) (pK ⟨[.sw 0, .p 1 0 0, .p 2 0 0], [.rw .ins .own, z0, z37]⟩ (K .normal) c d e g h i j l m o) }, { key := 17, live := [0, 4, 5], out := fun | .ret => ([6], []) | _ => ([], []), q := ⟨[.sw 0, .p 1 0 0, .p 2 0 0], [.rw .ins .own, z0, z37]⟩, G := fun R K a b c d e g h i j l => r16_expr_2_c17 F N a b c d e g h i j l (pK ⟨[.sw 1], [.g, .rw .ins .own]⟩ (K .ret)) }], g := [r16_place_S N, ⟨r16_expr_2_C F, hF.r16_expr_2⟩, r13_Find_S N, r16_op_S N, ⟨r16_and_2_C F, hF.r16_and_2⟩, ⟨r16_or_2_C F, hF.r16_or_2⟩], mode := fun | 15 => .own | 16 => .own | 26 => .own | 27 => .own | 32 => .own | 33 => .own | 43 => .own | 44 => .own | 59 => .own | 60 => .own | 90 => .own | 91 => .own | _ => .app }
theorem r16_expr_2_okF (F : Fam_r16_expr_2) (hF : Fam_r16_expr_2_ok F) (N : Nat) : Ct.ok E0 ⟨(r16_expr_2_D F hF N).f, (r16_expr_2_D F hF N).q, fun R k a b c d e g h i j l => r16_expr_2_d F N a b c d e g h i j l (oK ⟨.sw 1, [.g], [.rw .ins .own]⟩ k)⟩ := FD.ct e0 (r16_expr_2_D F hF N) N (fun R k a b c d e g h i j l => r16_expr_2_d F N a b c d e g h i j l (oK ⟨.sw 1, [.g], [.rw .ins .own]⟩ k))
noncomputable def r16_and_2_d (F : Fam_r16_expr_2) {R : Type} (N : Nat) (Kind N_ : Int) (Name : List UInt8) (Kids : List Expr) (At : Int) (Vars Ports Timers : List (List UInt8)) (Nodes : List Node) (c : List Ins) (k0 : (List Ins) → Option R) : Option R :=
 (at? Kids 0).bind fun e1 =>
 F.r16_expr_2 _ e1.Kind e1.N e1.Name e1.Kids e1.At Vars Ports Timers Nodes c (fun r2 =>
 if r2.length + ([(⟨24, 0, 0, []⟩ : Ins)]).length ≤ maxRow then ((at? Kids 1).bind fun e3 =>
 F.r16_expr_2 _ e3.Kind e3.N e3.Name e3.Kids e3.At Vars Ports Timers Nodes (r2 ++ ([(⟨24, 0, 0, []⟩ : Ins)])) (fun r4 =>
 if r4.length + ([(⟨24, 0, 0, []⟩ : Ins), (⟨1, 0, 1, []⟩ : Ins), (⟨23, 0, 0, []⟩ : Ins)]).length ≤ maxRow then (if (0 : Int) ≤ ((r2.length : Nat) : Int) ∧ ((r2.length : Nat) : Int) < ((r4 ++ ([(⟨24, 0, 0, []⟩ : Ins), (⟨1, 0, 1, []⟩ : Ins), (⟨23, 0, 0, []⟩ : Ins)])).length : Int) then (match (r4 ++ ([(⟨24, 0, 0, []⟩ : Ins), (⟨1, 0, 1, []⟩ : Ins), (⟨23, 0, 0, []⟩ : Ins)]))[((r2.length : Nat) : Int).toNat]? with
  | some e5 => (if (0 : Int) ≤ ((r4.length : Nat) : Int) ∧ ((r4.length : Nat) : Int) < (((r4 ++ ([(⟨24, 0, 0, []⟩ : Ins), (⟨1, 0, 1, []⟩ : Ins), (⟨23, 0, 0, []⟩ : Ins)])).set (((r2.length : Nat) : Int).toNat) (⟨e5.Op, (((r4 ++ ([(⟨24, 0, 0, []⟩ : Ins), (⟨1, 0, 1, []⟩ : Ins), (⟨23, 0, 0, []⟩ : Ins)])).length : Nat) : Int), e5.N, e5.S⟩ : Ins)).length : Int) then (match ((r4 ++ ([(⟨24, 0, 0, []⟩ : Ins), (⟨1, 0, 1, []⟩ : Ins), (⟨23, 0, 0, []⟩ : Ins)])).set (((r2.length : Nat) : Int).toNat) (⟨e5.Op, (((r4 ++ ([(⟨24, 0, 0, []⟩ : Ins), (⟨1, 0, 1, []⟩ : Ins), (⟨23, 0, 0, []⟩ : Ins)])).length : Nat) : Int), e5.N, e5.S⟩ : Ins))[((r4.length : Nat) : Int).toNat]? with
    | some e6 => (if (((r4 ++ ([(⟨24, 0, 0, []⟩ : Ins), (⟨1, 0, 1, []⟩ : Ins), (⟨23, 0, 0, []⟩ : Ins)])).set (((r2.length : Nat) : Int).toNat) (⟨e5.Op, (((r4 ++ ([(⟨24, 0, 0, []⟩ : Ins), (⟨1, 0, 1, []⟩ : Ins), (⟨23, 0, 0, []⟩ : Ins)])).length : Nat) : Int), e5.N, e5.S⟩ : Ins)).set (((r4.length : Nat) : Int).toNat) (⟨e6.Op, (((r4 ++ ([(⟨24, 0, 0, []⟩ : Ins), (⟨1, 0, 1, []⟩ : Ins), (⟨23, 0, 0, []⟩ : Ins)])).length : Nat) : Int), e6.N, e6.S⟩ : Ins)).length + ([(⟨1, 0, 0, []⟩ : Ins)]).length ≤ maxRow then (if (0 : Int) ≤ IntKind.wrap .i64 (((r4.length : Nat) : Int) + 2) ∧ IntKind.wrap .i64 (((r4.length : Nat) : Int) + 2) < (((((r4 ++ ([(⟨24, 0, 0, []⟩ : Ins), (⟨1, 0, 1, []⟩ : Ins), (⟨23, 0, 0, []⟩ : Ins)])).set (((r2.length : Nat) : Int).toNat) (⟨e5.Op, (((r4 ++ ([(⟨24, 0, 0, []⟩ : Ins), (⟨1, 0, 1, []⟩ : Ins), (⟨23, 0, 0, []⟩ : Ins)])).length : Nat) : Int), e5.N, e5.S⟩ : Ins)).set (((r4.length : Nat) : Int).toNat) (⟨e6.Op, (((r4 ++ ([(⟨24, 0, 0, []⟩ : Ins), (⟨1, 0, 1, []⟩ : Ins), (⟨23, 0, 0, []⟩ : Ins)])).length : Nat) : Int), e6.N, e6.S⟩ : Ins)) ++ ([(⟨1, 0, 0, []⟩ : Ins)])).length : Int) then (match ((((r4 ++ ([(⟨24, 0, 0, []⟩ : Ins), (⟨1, 0, 1, []⟩ : Ins), (⟨23, 0, 0, []⟩ : Ins)])).set (((r2.length : Nat) : Int).toNat) (⟨e5.Op, (((r4 ++ ([(⟨24, 0, 0, []⟩ : Ins), (⟨1, 0, 1, []⟩ : Ins), (⟨23, 0, 0, []⟩ : Ins)])).length : Nat) : Int), e5.N, e5.S⟩ : Ins)).set (((r4.length : Nat) : Int).toNat) (⟨e6.Op, (((r4 ++ ([(⟨24, 0, 0, []⟩ : Ins), (⟨1, 0, 1, []⟩ : Ins), (⟨23, 0, 0, []⟩ : Ins)])).length : Nat) : Int), e6.N, e6.S⟩ : Ins)) ++ ([(⟨1, 0, 0, []⟩ : Ins)]))[(IntKind.wrap .i64 (((r4.length : Nat) : Int) + 2)).toNat]? with
  | some e7 => (k0 (((((r4 ++ ([(⟨24, 0, 0, []⟩ : Ins), (⟨1, 0, 1, []⟩ : Ins), (⟨23, 0, 0, []⟩ : Ins)])).set (((r2.length : Nat) : Int).toNat) (⟨e5.Op, (((r4 ++ ([(⟨24, 0, 0, []⟩ : Ins), (⟨1, 0, 1, []⟩ : Ins), (⟨23, 0, 0, []⟩ : Ins)])).length : Nat) : Int), e5.N, e5.S⟩ : Ins)).set (((r4.length : Nat) : Int).toNat) (⟨e6.Op, (((r4 ++ ([(⟨24, 0, 0, []⟩ : Ins), (⟨1, 0, 1, []⟩ : Ins), (⟨23, 0, 0, []⟩ : Ins)])).length : Nat) : Int), e6.N, e6.S⟩ : Ins)) ++ ([(⟨1, 0, 0, []⟩ : Ins)])).set ((IntKind.wrap .i64 (((r4.length : Nat) : Int) + 2)).toNat) (⟨e7.Op, ((((((r4 ++ ([(⟨24, 0, 0, []⟩ : Ins), (⟨1, 0, 1, []⟩ : Ins), (⟨23, 0, 0, []⟩ : Ins)])).set (((r2.length : Nat) : Int).toNat) (⟨e5.Op, (((r4 ++ ([(⟨24, 0, 0, []⟩ : Ins), (⟨1, 0, 1, []⟩ : Ins), (⟨23, 0, 0, []⟩ : Ins)])).length : Nat) : Int), e5.N, e5.S⟩ : Ins)).set (((r4.length : Nat) : Int).toNat) (⟨e6.Op, (((r4 ++ ([(⟨24, 0, 0, []⟩ : Ins), (⟨1, 0, 1, []⟩ : Ins), (⟨23, 0, 0, []⟩ : Ins)])).length : Nat) : Int), e6.N, e6.S⟩ : Ins)) ++ ([(⟨1, 0, 0, []⟩ : Ins)])).length : Nat) : Int), e7.N, e7.S⟩ : Ins)))
  | none => none) else none) else none)
    | none => none) else none)
  | none => none) else none) else none)) else none)
noncomputable def r16_and_2_D (F : Fam_r16_expr_2) (hF : Fam_r16_expr_2_ok F) (N : Nat) : FD E0 := { f := 100, fn := Tryz.f100, q := r16_and_2_q, g := [⟨r16_expr_2_C F, hF.r16_expr_2⟩], mode := fun | 20 => .own | 21 => .own | 35 => .own | 36 => .own | 51 => .own | 52 => .own | _ => .app }
theorem r16_and_2_okF (F : Fam_r16_expr_2) (hF : Fam_r16_expr_2_ok F) (N : Nat) : Ct.ok E0 ⟨(r16_and_2_D F hF N).f, (r16_and_2_D F hF N).q, fun R k a b c d e g h i j l => r16_and_2_d F N a b c d e g h i j l (oK ⟨.sw 1, [.g], [.rw .ins .own]⟩ k)⟩ := FD.ct e0 (r16_and_2_D F hF N) N (fun R k a b c d e g h i j l => r16_and_2_d F N a b c d e g h i j l (oK ⟨.sw 1, [.g], [.rw .ins .own]⟩ k))
noncomputable def r16_or_2_d (F : Fam_r16_expr_2) {R : Type} (N : Nat) (Kind N_ : Int) (Name : List UInt8) (Kids : List Expr) (At : Int) (Vars Ports Timers : List (List UInt8)) (Nodes : List Node) (c : List Ins) (k0 : (List Ins) → Option R) : Option R :=
 (at? Kids 0).bind fun e1 =>
 F.r16_expr_2 _ e1.Kind e1.N e1.Name e1.Kids e1.At Vars Ports Timers Nodes c (fun r2 =>
 if r2.length + ([(⟨24, 0, 0, []⟩ : Ins), (⟨1, 0, 1, []⟩ : Ins), (⟨23, 0, 0, []⟩ : Ins)]).length ≤ maxRow then (if (0 : Int) ≤ ((r2.length : Nat) : Int) ∧ ((r2.length : Nat) : Int) < ((r2 ++ ([(⟨24, 0, 0, []⟩ : Ins), (⟨1, 0, 1, []⟩ : Ins), (⟨23, 0, 0, []⟩ : Ins)])).length : Int) then (match (r2 ++ ([(⟨24, 0, 0, []⟩ : Ins), (⟨1, 0, 1, []⟩ : Ins), (⟨23, 0, 0, []⟩ : Ins)]))[((r2.length : Nat) : Int).toNat]? with
  | some e3 => ((at? Kids 1).bind fun e4 =>
 F.r16_expr_2 _ e4.Kind e4.N e4.Name e4.Kids e4.At Vars Ports Timers Nodes ((r2 ++ ([(⟨24, 0, 0, []⟩ : Ins), (⟨1, 0, 1, []⟩ : Ins), (⟨23, 0, 0, []⟩ : Ins)])).set (((r2.length : Nat) : Int).toNat) (⟨e3.Op, (((r2 ++ ([(⟨24, 0, 0, []⟩ : Ins), (⟨1, 0, 1, []⟩ : Ins), (⟨23, 0, 0, []⟩ : Ins)])).length : Nat) : Int), e3.N, e3.S⟩ : Ins)) (fun r5 =>
 if r5.length + ([(⟨24, 0, 0, []⟩ : Ins), (⟨1, 0, 1, []⟩ : Ins), (⟨23, 0, 0, []⟩ : Ins)]).length ≤ maxRow then (if (0 : Int) ≤ ((r5.length : Nat) : Int) ∧ ((r5.length : Nat) : Int) < ((r5 ++ ([(⟨24, 0, 0, []⟩ : Ins), (⟨1, 0, 1, []⟩ : Ins), (⟨23, 0, 0, []⟩ : Ins)])).length : Int) then (match (r5 ++ ([(⟨24, 0, 0, []⟩ : Ins), (⟨1, 0, 1, []⟩ : Ins), (⟨23, 0, 0, []⟩ : Ins)]))[((r5.length : Nat) : Int).toNat]? with
  | some e6 => (if ((r5 ++ ([(⟨24, 0, 0, []⟩ : Ins), (⟨1, 0, 1, []⟩ : Ins), (⟨23, 0, 0, []⟩ : Ins)])).set (((r5.length : Nat) : Int).toNat) (⟨e6.Op, (((r5 ++ ([(⟨24, 0, 0, []⟩ : Ins), (⟨1, 0, 1, []⟩ : Ins), (⟨23, 0, 0, []⟩ : Ins)])).length : Nat) : Int), e6.N, e6.S⟩ : Ins)).length + ([(⟨1, 0, 0, []⟩ : Ins)]).length ≤ maxRow then (if (0 : Int) ≤ IntKind.wrap .i64 (((r2.length : Nat) : Int) + 2) ∧ IntKind.wrap .i64 (((r2.length : Nat) : Int) + 2) < ((((r5 ++ ([(⟨24, 0, 0, []⟩ : Ins), (⟨1, 0, 1, []⟩ : Ins), (⟨23, 0, 0, []⟩ : Ins)])).set (((r5.length : Nat) : Int).toNat) (⟨e6.Op, (((r5 ++ ([(⟨24, 0, 0, []⟩ : Ins), (⟨1, 0, 1, []⟩ : Ins), (⟨23, 0, 0, []⟩ : Ins)])).length : Nat) : Int), e6.N, e6.S⟩ : Ins)) ++ ([(⟨1, 0, 0, []⟩ : Ins)])).length : Int) then (match (((r5 ++ ([(⟨24, 0, 0, []⟩ : Ins), (⟨1, 0, 1, []⟩ : Ins), (⟨23, 0, 0, []⟩ : Ins)])).set (((r5.length : Nat) : Int).toNat) (⟨e6.Op, (((r5 ++ ([(⟨24, 0, 0, []⟩ : Ins), (⟨1, 0, 1, []⟩ : Ins), (⟨23, 0, 0, []⟩ : Ins)])).length : Nat) : Int), e6.N, e6.S⟩ : Ins)) ++ ([(⟨1, 0, 0, []⟩ : Ins)]))[(IntKind.wrap .i64 (((r2.length : Nat) : Int) + 2)).toNat]? with
  | some e7 => (if (0 : Int) ≤ IntKind.wrap .i64 (((r5.length : Nat) : Int) + 2) ∧ IntKind.wrap .i64 (((r5.length : Nat) : Int) + 2) < (((((r5 ++ ([(⟨24, 0, 0, []⟩ : Ins), (⟨1, 0, 1, []⟩ : Ins), (⟨23, 0, 0, []⟩ : Ins)])).set (((r5.length : Nat) : Int).toNat) (⟨e6.Op, (((r5 ++ ([(⟨24, 0, 0, []⟩ : Ins), (⟨1, 0, 1, []⟩ : Ins), (⟨23, 0, 0, []⟩ : Ins)])).length : Nat) : Int), e6.N, e6.S⟩ : Ins)) ++ ([(⟨1, 0, 0, []⟩ : Ins)])).set ((IntKind.wrap .i64 (((r2.length : Nat) : Int) + 2)).toNat) (⟨e7.Op, (((((r5 ++ ([(⟨24, 0, 0, []⟩ : Ins), (⟨1, 0, 1, []⟩ : Ins), (⟨23, 0, 0, []⟩ : Ins)])).set (((r5.length : Nat) : Int).toNat) (⟨e6.Op, (((r5 ++ ([(⟨24, 0, 0, []⟩ : Ins), (⟨1, 0, 1, []⟩ : Ins), (⟨23, 0, 0, []⟩ : Ins)])).length : Nat) : Int), e6.N, e6.S⟩ : Ins)) ++ ([(⟨1, 0, 0, []⟩ : Ins)])).length : Nat) : Int), e7.N, e7.S⟩ : Ins)).length : Int) then (match ((((r5 ++ ([(⟨24, 0, 0, []⟩ : Ins), (⟨1, 0, 1, []⟩ : Ins), (⟨23, 0, 0, []⟩ : Ins)])).set (((r5.length : Nat) : Int).toNat) (⟨e6.Op, (((r5 ++ ([(⟨24, 0, 0, []⟩ : Ins), (⟨1, 0, 1, []⟩ : Ins), (⟨23, 0, 0, []⟩ : Ins)])).length : Nat) : Int), e6.N, e6.S⟩ : Ins)) ++ ([(⟨1, 0, 0, []⟩ : Ins)])).set ((IntKind.wrap .i64 (((r2.length : Nat) : Int) + 2)).toNat) (⟨e7.Op, (((((r5 ++ ([(⟨24, 0, 0, []⟩ : Ins), (⟨1, 0, 1, []⟩ : Ins), (⟨23, 0, 0, []⟩ : Ins)])).set (((r5.length : Nat) : Int).toNat) (⟨e6.Op, (((r5 ++ ([(⟨24, 0, 0, []⟩ : Ins), (⟨1, 0, 1, []⟩ : Ins), (⟨23, 0, 0, []⟩ : Ins)])).length : Nat) : Int), e6.N, e6.S⟩ : Ins)) ++ ([(⟨1, 0, 0, []⟩ : Ins)])).length : Nat) : Int), e7.N, e7.S⟩ : Ins))[(IntKind.wrap .i64 (((r5.length : Nat) : Int) + 2)).toNat]? with
    | some e8 => (k0 (((((r5 ++ ([(⟨24, 0, 0, []⟩ : Ins), (⟨1, 0, 1, []⟩ : Ins), (⟨23, 0, 0, []⟩ : Ins)])).set (((r5.length : Nat) : Int).toNat) (⟨e6.Op, (((r5 ++ ([(⟨24, 0, 0, []⟩ : Ins), (⟨1, 0, 1, []⟩ : Ins), (⟨23, 0, 0, []⟩ : Ins)])).length : Nat) : Int), e6.N, e6.S⟩ : Ins)) ++ ([(⟨1, 0, 0, []⟩ : Ins)])).set ((IntKind.wrap .i64 (((r2.length : Nat) : Int) + 2)).toNat) (⟨e7.Op, (((((r5 ++ ([(⟨24, 0, 0, []⟩ : Ins), (⟨1, 0, 1, []⟩ : Ins), (⟨23, 0, 0, []⟩ : Ins)])).set (((r5.length : Nat) : Int).toNat) (⟨e6.Op, (((r5 ++ ([(⟨24, 0, 0, []⟩ : Ins), (⟨1, 0, 1, []⟩ : Ins), (⟨23, 0, 0, []⟩ : Ins)])).length : Nat) : Int), e6.N, e6.S⟩ : Ins)) ++ ([(⟨1, 0, 0, []⟩ : Ins)])).length : Nat) : Int), e7.N, e7.S⟩ : Ins)).set ((IntKind.wrap .i64 (((r5.length : Nat) : Int) + 2)).toNat) (⟨e8.Op, (((((r5 ++ ([(⟨24, 0, 0, []⟩ : Ins), (⟨1, 0, 1, []⟩ : Ins), (⟨23, 0, 0, []⟩ : Ins)])).set (((r5.length : Nat) : Int).toNat) (⟨e6.Op, (((r5 ++ ([(⟨24, 0, 0, []⟩ : Ins), (⟨1, 0, 1, []⟩ : Ins), (⟨23, 0, 0, []⟩ : Ins)])).length : Nat) : Int), e6.N, e6.S⟩ : Ins)) ++ ([(⟨1, 0, 0, []⟩ : Ins)])).length : Nat) : Int), e8.N, e8.S⟩ : Ins)))
    | none => none) else none)
  | none => none) else none) else none)
  | none => none) else none) else none))
  | none => none) else none) else none)
noncomputable def r16_or_2_D (F : Fam_r16_expr_2) (hF : Fam_r16_expr_2_ok F) (N : Nat) : FD E0 := { f := 101, fn := Tryz.f101, q := r16_or_2_q, g := [⟨r16_expr_2_C F, hF.r16_expr_2⟩], mode := fun | 22 => .own | 23 => .own | 43 => .own | 44 => .own | 53 => .own | 54 => .own | _ => .app }
theorem r16_or_2_okF (F : Fam_r16_expr_2) (hF : Fam_r16_expr_2_ok F) (N : Nat) : Ct.ok E0 ⟨(r16_or_2_D F hF N).f, (r16_or_2_D F hF N).q, fun R k a b c d e g h i j l => r16_or_2_d F N a b c d e g h i j l (oK ⟨.sw 1, [.g], [.rw .ins .own]⟩ k)⟩ := FD.ct e0 (r16_or_2_D F hF N) N (fun R k a b c d e g h i j l => r16_or_2_d F N a b c d e g h i j l (oK ⟨.sw 1, [.g], [.rw .ins .own]⟩ k))
noncomputable def Fam_r16_expr_2_next (F : Fam_r16_expr_2) (N : Nat) : Fam_r16_expr_2 where
 r16_expr_2 := fun R Kind N_ Name Kids At Vars Ports Timers Nodes c k0 => r16_expr_2_d F N Kind N_ Name Kids At Vars Ports Timers Nodes c k0
 r16_and_2 := fun R Kind N_ Name Kids At Vars Ports Timers Nodes c k0 => r16_and_2_d F N Kind N_ Name Kids At Vars Ports Timers Nodes c k0
 r16_or_2 := fun R Kind N_ Name Kids At Vars Ports Timers Nodes c k0 => r16_or_2_d F N Kind N_ Name Kids At Vars Ports Timers Nodes c k0
noncomputable def Fam_r16_expr_2_at (N : Nat) : Nat → Fam_r16_expr_2
 | 0 => { r16_expr_2 := fun _ _ _ _ _ _ _ _ _ _ _ _ => none, r16_and_2 := fun _ _ _ _ _ _ _ _ _ _ _ _ => none, r16_or_2 := fun _ _ _ _ _ _ _ _ _ _ _ _ => none }
 | d + 1 => Fam_r16_expr_2_next (Fam_r16_expr_2_at N d) N
theorem Fam_r16_expr_2_at_ok (N : Nat) : ∀ d, Fam_r16_expr_2_ok (Fam_r16_expr_2_at N d)
 | 0 => { r16_expr_2 := Ct.ok_none, r16_and_2 := Ct.ok_none, r16_or_2 := Ct.ok_none }
 | d + 1 => { r16_expr_2 := r16_expr_2_okF _ (Fam_r16_expr_2_at_ok N d) N, r16_and_2 := r16_and_2_okF _ (Fam_r16_expr_2_at_ok N d) N, r16_or_2 := r16_or_2_okF _ (Fam_r16_expr_2_at_ok N d) N }
noncomputable def r16_expr_2 {R : Type} (N : Nat) (Kind N_ : Int) (Name : List UInt8) (Kids : List Expr) (At : Int) (Vars Ports Timers : List (List UInt8)) (Nodes : List Node) (c : List Ins) (k0 : (List Ins) → Option R) : Option R := (Fam_r16_expr_2_at N N).r16_expr_2 R Kind N_ Name Kids At Vars Ports Timers Nodes c k0
noncomputable def r16_expr_2_S (N : Nat) : OC E0 := ⟨r16_expr_2_C (Fam_r16_expr_2_at N N), (Fam_r16_expr_2_at_ok N N).r16_expr_2⟩
noncomputable def r16_and_2 {R : Type} (N : Nat) (Kind N_ : Int) (Name : List UInt8) (Kids : List Expr) (At : Int) (Vars Ports Timers : List (List UInt8)) (Nodes : List Node) (c : List Ins) (k0 : (List Ins) → Option R) : Option R := (Fam_r16_expr_2_at N N).r16_and_2 R Kind N_ Name Kids At Vars Ports Timers Nodes c k0
noncomputable def r16_or_2 {R : Type} (N : Nat) (Kind N_ : Int) (Name : List UInt8) (Kids : List Expr) (At : Int) (Vars Ports Timers : List (List UInt8)) (Nodes : List Node) (c : List Ins) (k0 : (List Ins) → Option R) : Option R := (Fam_r16_expr_2_at N N).r16_or_2 R Kind N_ Name Kids At Vars Ports Timers Nodes c k0
structure Fam_r16_expr where
 r16_expr : (R : Type) → Int → Int → (List UInt8) → (List Expr) → Int → (List (List UInt8)) → (List (List UInt8)) → (List (List UInt8)) → (List Node) → ((List Ins) → Option R) → Option R
 r16_and : (R : Type) → Int → Int → (List UInt8) → (List Expr) → Int → (List (List UInt8)) → (List (List UInt8)) → (List (List UInt8)) → (List Node) → ((List Ins) → Option R) → Option R
 r16_or : (R : Type) → Int → Int → (List UInt8) → (List Expr) → Int → (List (List UInt8)) → (List (List UInt8)) → (List (List UInt8)) → (List Node) → ((List Ins) → Option R) → Option R
def r16_expr_q : Pat S := ⟨[.ns, y2, y1], []⟩
noncomputable def r16_expr_C (F : Fam_r16_expr) : Ct S := ⟨82, r16_expr_q, fun R k a b c d e g h i j => F.r16_expr R a b c d e g h i j (oK ⟨.sw 0, [], [.rw .ins .own]⟩ k)⟩
def r16_and_q : Pat S := ⟨[.ns, y2, y1], []⟩
noncomputable def r16_and_C (F : Fam_r16_expr) : Ct S := ⟨100, r16_and_q, fun R k a b c d e g h i j => F.r16_and R a b c d e g h i j (oK ⟨.sw 0, [], [.rw .ins .own]⟩ k)⟩
def r16_or_q : Pat S := ⟨[.ns, y2, y1], []⟩
noncomputable def r16_or_C (F : Fam_r16_expr) : Ct S := ⟨101, r16_or_q, fun R k a b c d e g h i j => F.r16_or R a b c d e g h i j (oK ⟨.sw 0, [], [.rw .ins .own]⟩ k)⟩
structure Fam_r16_expr_ok (F : Fam_r16_expr) : Prop where
 r16_expr : (r16_expr_C F).ok E0
 r16_and : (r16_and_C F).ok E0
 r16_or : (r16_or_C F).ok E0
noncomputable def r16_expr_c12 (F : Fam_r16_expr) {R : Type} (N : Nat) (v_3 : Int) (v_4 : Bool) (e_5 e_6 : Int) (e_7 : List UInt8) (e_8 : List Expr) (e_9 : Int) (n_10 n_11 n_12 : List (List UInt8)) (n_13 : List Node) (kp0 : (List Ins) → Option R) (kp1 : Option R) : Option R :=
 if v_4 = true then
  ((at? e_8 0).bind fun e14 =>
  F.r16_expr _ e14.Kind e14.N e14.Name e14.Kids e14.At n_10 n_11 n_12 n_13 (fun r15 =>
  r16_op N e_5 (fun r16 =>
  if r15.length + ([(⟨r16, 0, 0, []⟩ : Ins)]).length ≤ maxRow then (kp0 (r15 ++ ([(⟨r16, 0, 0, []⟩ : Ins)]))) else none)))
 else
  (if (v_3 == 18) = true then
   (F.r16_and _ e_5 e_6 e_7 e_8 e_9 n_10 n_11 n_12 n_13 (fun r17 =>
   kp0 r17))
  else
   (if (v_3 == 19) = true then
    (F.r16_or _ e_5 e_6 e_7 e_8 e_9 n_10 n_11 n_12 n_13 (fun r18 =>
    kp0 r18))
   else
    (kp1 )))
noncomputable def r16_expr_c17 (F : Fam_r16_expr) {R : Type} (N : Nat) (e_20 e_21 : Int) (e_22 : List UInt8) (e_23 : List Expr) (e_24 : Int) (n_25 n_26 n_27 : List (List UInt8)) (n_28 : List Node) (kp0 : (List Ins) → Option R) : Option R :=
 (at? e_23 0).bind fun e29 =>
 F.r16_expr _ e29.Kind e29.N e29.Name e29.Kids e29.At n_25 n_26 n_27 n_28 (fun r30 =>
 (at? e_23 1).bind fun e31 =>
 r16_expr_2 N e31.Kind e31.N e31.Name e31.Kids e31.At n_25 n_26 n_27 n_28 r30 (fun r32 =>
 r16_op N e_20 (fun r33 =>
 if r32.length + ([(⟨r33, 0, 0, []⟩ : Ins)]).length ≤ maxRow then (kp0 (r32 ++ ([(⟨r33, 0, 0, []⟩ : Ins)]))) else none)))
noncomputable def r16_expr_d (F : Fam_r16_expr) {R : Type} (N : Nat) (Kind N_ : Int) (Name : List UInt8) (Kids : List Expr) (At : Int) (Vars Ports Timers : List (List UInt8)) (Nodes : List Node) (k0 : (List Ins) → Option R) : Option R :=
 if (Kind == 1) = true then
  (if ([(⟨1, 0, N_, []⟩ : Ins)]).length ≤ maxRow then (k0 ([(⟨1, 0, N_, []⟩ : Ins)])) else none)
 else
  (if (Kind == 2) = true then
   (r16_place N Vars Name (fun r1 =>
   if ([(⟨2, r1, 0, []⟩ : Ins)]).length ≤ maxRow then (k0 ([(⟨2, r1, 0, []⟩ : Ins)])) else none))
  else
   (if (Kind == 3) = true then
    (if ([(⟨3, 0, 0, []⟩ : Ins)]).length ≤ maxRow then (k0 ([(⟨3, 0, 0, []⟩ : Ins)])) else none)
   else
    (if (Kind == 4) = true then
     (r13_Find N Nodes Name (fun r2 =>
     if ([(⟨4, r2, 0, []⟩ : Ins)]).length ≤ maxRow then (k0 ([(⟨4, r2, 0, []⟩ : Ins)])) else none))
    else
     (if (Kind == 5) = true then
      (r16_expr_c12 F N Kind (Kind == 5) Kind N_ Name Kids At Vars Ports Timers Nodes (fun y19 =>
      k0 y19)
       (r16_expr_c17 F N Kind N_ Name Kids At Vars Ports Timers Nodes (fun y34 =>
       k0 y34)))
     else
      (r16_expr_c12 F N Kind (Kind == 6) Kind N_ Name Kids At Vars Ports Timers Nodes (fun y35 =>
      k0 y35)
       (r16_expr_c17 F N Kind N_ Name Kids At Vars Ports Timers Nodes (fun y36 =>
       k0 y36)))))))
noncomputable def r16_expr_D (F : Fam_r16_expr) (hF : Fam_r16_expr_ok F) (N : Nat) : FD E0 := { f := 82, fn := Tryz.f82, q := r16_expr_q, cuts := [{ key := 12, live := [0, 4, 5, 8, 45], out := fun | .ret => ([6], []) | .normal => ([0, 4, 5], []) | _ => ([], []), q := ⟨[.ns, .p 0 0 0, .p 1 0 0, .i .i64, .b], [z0, z37]⟩, G := fun R K a b c d e g h i j l m => r16_expr_c12 F N a b c d e g h i j l m (pK ⟨[.sw 0], [.rw .ins .own]⟩ (K .ret)) (pK ⟨[.ns, .p 0 0 0, .p 1 0 0], [z0, z37]⟩ (K .normal) c d e g h i j l m) }, { key := 17, live := [0, 4, 5], out := fun | .ret => ([6], []) | _ => ([], []), q := ⟨[.ns, .p 0 0 0, .p 1 0 0], [z0, z37]⟩, G := fun R K a b c d e g h i j => r16_expr_c17 F N a b c d e g h i j (pK ⟨[.sw 0], [.rw .ins .own]⟩ (K .ret)) }], g := [r16_place_S N, ⟨r16_expr_C F, hF.r16_expr⟩, r16_expr_2_S N, r13_Find_S N, r16_op_S N, ⟨r16_and_C F, hF.r16_and⟩, ⟨r16_or_C F, hF.r16_or⟩], mode := fun | 15 => .own | 16 => .own | 26 => .own | 27 => .own | 32 => .own | 33 => .own | 43 => .own | 44 => .own | 59 => .own | 60 => .own | 90 => .own | 91 => .own | _ => .app }
theorem r16_expr_okF (F : Fam_r16_expr) (hF : Fam_r16_expr_ok F) (N : Nat) : Ct.ok E0 ⟨(r16_expr_D F hF N).f, (r16_expr_D F hF N).q, fun R k a b c d e g h i j => r16_expr_d F N a b c d e g h i j (oK ⟨.sw 0, [], [.rw .ins .own]⟩ k)⟩ := FD.ct e0 (r16_expr_D F hF N) N (fun R k a b c d e g h i j => r16_expr_d F N a b c d e g h i j (oK ⟨.sw 0, [], [.rw .ins .own]⟩ k))
noncomputable def r16_and_d (F : Fam_r16_expr) {R : Type} (N : Nat) (Kind N_ : Int) (Name : List UInt8) (Kids : List Expr) (At : Int) (Vars Ports Timers : List (List UInt8)) (Nodes : List Node) (k0 : (List Ins) → Option R) : Option R :=
 (at? Kids 0).bind fun e1 =>
 F.r16_expr _ e1.Kind e1.N e1.Name e1.Kids e1.At Vars Ports Timers Nodes (fun r2 =>
 if r2.length + ([(⟨24, 0, 0, []⟩ : Ins)]).length ≤ maxRow then ((at? Kids 1).bind fun e3 =>
 r16_expr_2 N e3.Kind e3.N e3.Name e3.Kids e3.At Vars Ports Timers Nodes (r2 ++ ([(⟨24, 0, 0, []⟩ : Ins)])) (fun r4 =>
 if r4.length + ([(⟨24, 0, 0, []⟩ : Ins), (⟨1, 0, 1, []⟩ : Ins), (⟨23, 0, 0, []⟩ : Ins)]).length ≤ maxRow then (if (0 : Int) ≤ ((r2.length : Nat) : Int) ∧ ((r2.length : Nat) : Int) < ((r4 ++ ([(⟨24, 0, 0, []⟩ : Ins), (⟨1, 0, 1, []⟩ : Ins), (⟨23, 0, 0, []⟩ : Ins)])).length : Int) then (match (r4 ++ ([(⟨24, 0, 0, []⟩ : Ins), (⟨1, 0, 1, []⟩ : Ins), (⟨23, 0, 0, []⟩ : Ins)]))[((r2.length : Nat) : Int).toNat]? with
  | some e5 => (if (0 : Int) ≤ ((r4.length : Nat) : Int) ∧ ((r4.length : Nat) : Int) < (((r4 ++ ([(⟨24, 0, 0, []⟩ : Ins), (⟨1, 0, 1, []⟩ : Ins), (⟨23, 0, 0, []⟩ : Ins)])).set (((r2.length : Nat) : Int).toNat) (⟨e5.Op, (((r4 ++ ([(⟨24, 0, 0, []⟩ : Ins), (⟨1, 0, 1, []⟩ : Ins), (⟨23, 0, 0, []⟩ : Ins)])).length : Nat) : Int), e5.N, e5.S⟩ : Ins)).length : Int) then (match ((r4 ++ ([(⟨24, 0, 0, []⟩ : Ins), (⟨1, 0, 1, []⟩ : Ins), (⟨23, 0, 0, []⟩ : Ins)])).set (((r2.length : Nat) : Int).toNat) (⟨e5.Op, (((r4 ++ ([(⟨24, 0, 0, []⟩ : Ins), (⟨1, 0, 1, []⟩ : Ins), (⟨23, 0, 0, []⟩ : Ins)])).length : Nat) : Int), e5.N, e5.S⟩ : Ins))[((r4.length : Nat) : Int).toNat]? with
    | some e6 => (if (((r4 ++ ([(⟨24, 0, 0, []⟩ : Ins), (⟨1, 0, 1, []⟩ : Ins), (⟨23, 0, 0, []⟩ : Ins)])).set (((r2.length : Nat) : Int).toNat) (⟨e5.Op, (((r4 ++ ([(⟨24, 0, 0, []⟩ : Ins), (⟨1, 0, 1, []⟩ : Ins), (⟨23, 0, 0, []⟩ : Ins)])).length : Nat) : Int), e5.N, e5.S⟩ : Ins)).set (((r4.length : Nat) : Int).toNat) (⟨e6.Op, (((r4 ++ ([(⟨24, 0, 0, []⟩ : Ins), (⟨1, 0, 1, []⟩ : Ins), (⟨23, 0, 0, []⟩ : Ins)])).length : Nat) : Int), e6.N, e6.S⟩ : Ins)).length + ([(⟨1, 0, 0, []⟩ : Ins)]).length ≤ maxRow then (if (0 : Int) ≤ IntKind.wrap .i64 (((r4.length : Nat) : Int) + 2) ∧ IntKind.wrap .i64 (((r4.length : Nat) : Int) + 2) < (((((r4 ++ ([(⟨24, 0, 0, []⟩ : Ins), (⟨1, 0, 1, []⟩ : Ins), (⟨23, 0, 0, []⟩ : Ins)])).set (((r2.length : Nat) : Int).toNat) (⟨e5.Op, (((r4 ++ ([(⟨24, 0, 0, []⟩ : Ins), (⟨1, 0, 1, []⟩ : Ins), (⟨23, 0, 0, []⟩ : Ins)])).length : Nat) : Int), e5.N, e5.S⟩ : Ins)).set (((r4.length : Nat) : Int).toNat) (⟨e6.Op, (((r4 ++ ([(⟨24, 0, 0, []⟩ : Ins), (⟨1, 0, 1, []⟩ : Ins), (⟨23, 0, 0, []⟩ : Ins)])).length : Nat) : Int), e6.N, e6.S⟩ : Ins)) ++ ([(⟨1, 0, 0, []⟩ : Ins)])).length : Int) then (match ((((r4 ++ ([(⟨24, 0, 0, []⟩ : Ins), (⟨1, 0, 1, []⟩ : Ins), (⟨23, 0, 0, []⟩ : Ins)])).set (((r2.length : Nat) : Int).toNat) (⟨e5.Op, (((r4 ++ ([(⟨24, 0, 0, []⟩ : Ins), (⟨1, 0, 1, []⟩ : Ins), (⟨23, 0, 0, []⟩ : Ins)])).length : Nat) : Int), e5.N, e5.S⟩ : Ins)).set (((r4.length : Nat) : Int).toNat) (⟨e6.Op, (((r4 ++ ([(⟨24, 0, 0, []⟩ : Ins), (⟨1, 0, 1, []⟩ : Ins), (⟨23, 0, 0, []⟩ : Ins)])).length : Nat) : Int), e6.N, e6.S⟩ : Ins)) ++ ([(⟨1, 0, 0, []⟩ : Ins)]))[(IntKind.wrap .i64 (((r4.length : Nat) : Int) + 2)).toNat]? with
  | some e7 => (k0 (((((r4 ++ ([(⟨24, 0, 0, []⟩ : Ins), (⟨1, 0, 1, []⟩ : Ins), (⟨23, 0, 0, []⟩ : Ins)])).set (((r2.length : Nat) : Int).toNat) (⟨e5.Op, (((r4 ++ ([(⟨24, 0, 0, []⟩ : Ins), (⟨1, 0, 1, []⟩ : Ins), (⟨23, 0, 0, []⟩ : Ins)])).length : Nat) : Int), e5.N, e5.S⟩ : Ins)).set (((r4.length : Nat) : Int).toNat) (⟨e6.Op, (((r4 ++ ([(⟨24, 0, 0, []⟩ : Ins), (⟨1, 0, 1, []⟩ : Ins), (⟨23, 0, 0, []⟩ : Ins)])).length : Nat) : Int), e6.N, e6.S⟩ : Ins)) ++ ([(⟨1, 0, 0, []⟩ : Ins)])).set ((IntKind.wrap .i64 (((r4.length : Nat) : Int) + 2)).toNat) (⟨e7.Op, ((((((r4 ++ ([(⟨24, 0, 0, []⟩ : Ins), (⟨1, 0, 1, []⟩ : Ins), (⟨23, 0, 0, []⟩ : Ins)])).set (((r2.length : Nat) : Int).toNat) (⟨e5.Op, (((r4 ++ ([(⟨24, 0, 0, []⟩ : Ins), (⟨1, 0, 1, []⟩ : Ins), (⟨23, 0, 0, []⟩ : Ins)])).length : Nat) : Int), e5.N, e5.S⟩ : Ins)).set (((r4.length : Nat) : Int).toNat) (⟨e6.Op, (((r4 ++ ([(⟨24, 0, 0, []⟩ : Ins), (⟨1, 0, 1, []⟩ : Ins), (⟨23, 0, 0, []⟩ : Ins)])).length : Nat) : Int), e6.N, e6.S⟩ : Ins)) ++ ([(⟨1, 0, 0, []⟩ : Ins)])).length : Nat) : Int), e7.N, e7.S⟩ : Ins)))
  | none => none) else none) else none)
    | none => none) else none)
  | none => none) else none) else none)) else none)
noncomputable def r16_and_D (F : Fam_r16_expr) (hF : Fam_r16_expr_ok F) (N : Nat) : FD E0 := { f := 100, fn := Tryz.f100, q := r16_and_q, g := [⟨r16_expr_C F, hF.r16_expr⟩, r16_expr_2_S N], mode := fun | 20 => .own | 21 => .own | 35 => .own | 36 => .own | 51 => .own | 52 => .own | _ => .app }
theorem r16_and_okF (F : Fam_r16_expr) (hF : Fam_r16_expr_ok F) (N : Nat) : Ct.ok E0 ⟨(r16_and_D F hF N).f, (r16_and_D F hF N).q, fun R k a b c d e g h i j => r16_and_d F N a b c d e g h i j (oK ⟨.sw 0, [], [.rw .ins .own]⟩ k)⟩ := FD.ct e0 (r16_and_D F hF N) N (fun R k a b c d e g h i j => r16_and_d F N a b c d e g h i j (oK ⟨.sw 0, [], [.rw .ins .own]⟩ k))
noncomputable def r16_or_d (F : Fam_r16_expr) {R : Type} (N : Nat) (Kind N_ : Int) (Name : List UInt8) (Kids : List Expr) (At : Int) (Vars Ports Timers : List (List UInt8)) (Nodes : List Node) (k0 : (List Ins) → Option R) : Option R :=
 (at? Kids 0).bind fun e1 =>
 F.r16_expr _ e1.Kind e1.N e1.Name e1.Kids e1.At Vars Ports Timers Nodes (fun r2 =>
 if r2.length + ([(⟨24, 0, 0, []⟩ : Ins), (⟨1, 0, 1, []⟩ : Ins), (⟨23, 0, 0, []⟩ : Ins)]).length ≤ maxRow then (if (0 : Int) ≤ ((r2.length : Nat) : Int) ∧ ((r2.length : Nat) : Int) < ((r2 ++ ([(⟨24, 0, 0, []⟩ : Ins), (⟨1, 0, 1, []⟩ : Ins), (⟨23, 0, 0, []⟩ : Ins)])).length : Int) then (match (r2 ++ ([(⟨24, 0, 0, []⟩ : Ins), (⟨1, 0, 1, []⟩ : Ins), (⟨23, 0, 0, []⟩ : Ins)]))[((r2.length : Nat) : Int).toNat]? with
  | some e3 => ((at? Kids 1).bind fun e4 =>
 r16_expr_2 N e4.Kind e4.N e4.Name e4.Kids e4.At Vars Ports Timers Nodes ((r2 ++ ([(⟨24, 0, 0, []⟩ : Ins), (⟨1, 0, 1, []⟩ : Ins), (⟨23, 0, 0, []⟩ : Ins)])).set (((r2.length : Nat) : Int).toNat) (⟨e3.Op, (((r2 ++ ([(⟨24, 0, 0, []⟩ : Ins), (⟨1, 0, 1, []⟩ : Ins), (⟨23, 0, 0, []⟩ : Ins)])).length : Nat) : Int), e3.N, e3.S⟩ : Ins)) (fun r5 =>
 if r5.length + ([(⟨24, 0, 0, []⟩ : Ins), (⟨1, 0, 1, []⟩ : Ins), (⟨23, 0, 0, []⟩ : Ins)]).length ≤ maxRow then (if (0 : Int) ≤ ((r5.length : Nat) : Int) ∧ ((r5.length : Nat) : Int) < ((r5 ++ ([(⟨24, 0, 0, []⟩ : Ins), (⟨1, 0, 1, []⟩ : Ins), (⟨23, 0, 0, []⟩ : Ins)])).length : Int) then (match (r5 ++ ([(⟨24, 0, 0, []⟩ : Ins), (⟨1, 0, 1, []⟩ : Ins), (⟨23, 0, 0, []⟩ : Ins)]))[((r5.length : Nat) : Int).toNat]? with
  | some e6 => (if ((r5 ++ ([(⟨24, 0, 0, []⟩ : Ins), (⟨1, 0, 1, []⟩ : Ins), (⟨23, 0, 0, []⟩ : Ins)])).set (((r5.length : Nat) : Int).toNat) (⟨e6.Op, (((r5 ++ ([(⟨24, 0, 0, []⟩ : Ins), (⟨1, 0, 1, []⟩ : Ins), (⟨23, 0, 0, []⟩ : Ins)])).length : Nat) : Int), e6.N, e6.S⟩ : Ins)).length + ([(⟨1, 0, 0, []⟩ : Ins)]).length ≤ maxRow then (if (0 : Int) ≤ IntKind.wrap .i64 (((r2.length : Nat) : Int) + 2) ∧ IntKind.wrap .i64 (((r2.length : Nat) : Int) + 2) < ((((r5 ++ ([(⟨24, 0, 0, []⟩ : Ins), (⟨1, 0, 1, []⟩ : Ins), (⟨23, 0, 0, []⟩ : Ins)])).set (((r5.length : Nat) : Int).toNat) (⟨e6.Op, (((r5 ++ ([(⟨24, 0, 0, []⟩ : Ins), (⟨1, 0, 1, []⟩ : Ins), (⟨23, 0, 0, []⟩ : Ins)])).length : Nat) : Int), e6.N, e6.S⟩ : Ins)) ++ ([(⟨1, 0, 0, []⟩ : Ins)])).length : Int) then (match (((r5 ++ ([(⟨24, 0, 0, []⟩ : Ins), (⟨1, 0, 1, []⟩ : Ins), (⟨23, 0, 0, []⟩ : Ins)])).set (((r5.length : Nat) : Int).toNat) (⟨e6.Op, (((r5 ++ ([(⟨24, 0, 0, []⟩ : Ins), (⟨1, 0, 1, []⟩ : Ins), (⟨23, 0, 0, []⟩ : Ins)])).length : Nat) : Int), e6.N, e6.S⟩ : Ins)) ++ ([(⟨1, 0, 0, []⟩ : Ins)]))[(IntKind.wrap .i64 (((r2.length : Nat) : Int) + 2)).toNat]? with
  | some e7 => (if (0 : Int) ≤ IntKind.wrap .i64 (((r5.length : Nat) : Int) + 2) ∧ IntKind.wrap .i64 (((r5.length : Nat) : Int) + 2) < (((((r5 ++ ([(⟨24, 0, 0, []⟩ : Ins), (⟨1, 0, 1, []⟩ : Ins), (⟨23, 0, 0, []⟩ : Ins)])).set (((r5.length : Nat) : Int).toNat) (⟨e6.Op, (((r5 ++ ([(⟨24, 0, 0, []⟩ : Ins), (⟨1, 0, 1, []⟩ : Ins), (⟨23, 0, 0, []⟩ : Ins)])).length : Nat) : Int), e6.N, e6.S⟩ : Ins)) ++ ([(⟨1, 0, 0, []⟩ : Ins)])).set ((IntKind.wrap .i64 (((r2.length : Nat) : Int) + 2)).toNat) (⟨e7.Op, (((((r5 ++ ([(⟨24, 0, 0, []⟩ : Ins), (⟨1, 0, 1, []⟩ : Ins), (⟨23, 0, 0, []⟩ : Ins)])).set (((r5.length : Nat) : Int).toNat) (⟨e6.Op, (((r5 ++ ([(⟨24, 0, 0, []⟩ : Ins), (⟨1, 0, 1, []⟩ : Ins), (⟨23, 0, 0, []⟩ : Ins)])).length : Nat) : Int), e6.N, e6.S⟩ : Ins)) ++ ([(⟨1, 0, 0, []⟩ : Ins)])).length : Nat) : Int), e7.N, e7.S⟩ : Ins)).length : Int) then (match ((((r5 ++ ([(⟨24, 0, 0, []⟩ : Ins), (⟨1, 0, 1, []⟩ : Ins), (⟨23, 0, 0, []⟩ : Ins)])).set (((r5.length : Nat) : Int).toNat) (⟨e6.Op, (((r5 ++ ([(⟨24, 0, 0, []⟩ : Ins), (⟨1, 0, 1, []⟩ : Ins), (⟨23, 0, 0, []⟩ : Ins)])).length : Nat) : Int), e6.N, e6.S⟩ : Ins)) ++ ([(⟨1, 0, 0, []⟩ : Ins)])).set ((IntKind.wrap .i64 (((r2.length : Nat) : Int) + 2)).toNat) (⟨e7.Op, (((((r5 ++ ([(⟨24, 0, 0, []⟩ : Ins), (⟨1, 0, 1, []⟩ : Ins), (⟨23, 0, 0, []⟩ : Ins)])).set (((r5.length : Nat) : Int).toNat) (⟨e6.Op, (((r5 ++ ([(⟨24, 0, 0, []⟩ : Ins), (⟨1, 0, 1, []⟩ : Ins), (⟨23, 0, 0, []⟩ : Ins)])).length : Nat) : Int), e6.N, e6.S⟩ : Ins)) ++ ([(⟨1, 0, 0, []⟩ : Ins)])).length : Nat) : Int), e7.N, e7.S⟩ : Ins))[(IntKind.wrap .i64 (((r5.length : Nat) : Int) + 2)).toNat]? with
    | some e8 => (k0 (((((r5 ++ ([(⟨24, 0, 0, []⟩ : Ins), (⟨1, 0, 1, []⟩ : Ins), (⟨23, 0, 0, []⟩ : Ins)])).set (((r5.length : Nat) : Int).toNat) (⟨e6.Op, (((r5 ++ ([(⟨24, 0, 0, []⟩ : Ins), (⟨1, 0, 1, []⟩ : Ins), (⟨23, 0, 0, []⟩ : Ins)])).length : Nat) : Int), e6.N, e6.S⟩ : Ins)) ++ ([(⟨1, 0, 0, []⟩ : Ins)])).set ((IntKind.wrap .i64 (((r2.length : Nat) : Int) + 2)).toNat) (⟨e7.Op, (((((r5 ++ ([(⟨24, 0, 0, []⟩ : Ins), (⟨1, 0, 1, []⟩ : Ins), (⟨23, 0, 0, []⟩ : Ins)])).set (((r5.length : Nat) : Int).toNat) (⟨e6.Op, (((r5 ++ ([(⟨24, 0, 0, []⟩ : Ins), (⟨1, 0, 1, []⟩ : Ins), (⟨23, 0, 0, []⟩ : Ins)])).length : Nat) : Int), e6.N, e6.S⟩ : Ins)) ++ ([(⟨1, 0, 0, []⟩ : Ins)])).length : Nat) : Int), e7.N, e7.S⟩ : Ins)).set ((IntKind.wrap .i64 (((r5.length : Nat) : Int) + 2)).toNat) (⟨e8.Op, (((((r5 ++ ([(⟨24, 0, 0, []⟩ : Ins), (⟨1, 0, 1, []⟩ : Ins), (⟨23, 0, 0, []⟩ : Ins)])).set (((r5.length : Nat) : Int).toNat) (⟨e6.Op, (((r5 ++ ([(⟨24, 0, 0, []⟩ : Ins), (⟨1, 0, 1, []⟩ : Ins), (⟨23, 0, 0, []⟩ : Ins)])).length : Nat) : Int), e6.N, e6.S⟩ : Ins)) ++ ([(⟨1, 0, 0, []⟩ : Ins)])).length : Nat) : Int), e8.N, e8.S⟩ : Ins)))
    | none => none) else none)
  | none => none) else none) else none)
  | none => none) else none) else none))
  | none => none) else none) else none)
noncomputable def r16_or_D (F : Fam_r16_expr) (hF : Fam_r16_expr_ok F) (N : Nat) : FD E0 := { f := 101, fn := Tryz.f101, q := r16_or_q, g := [⟨r16_expr_C F, hF.r16_expr⟩, r16_expr_2_S N], mode := fun | 22 => .own | 23 => .own | 43 => .own | 44 => .own | 53 => .own | 54 => .own | _ => .app }
theorem r16_or_okF (F : Fam_r16_expr) (hF : Fam_r16_expr_ok F) (N : Nat) : Ct.ok E0 ⟨(r16_or_D F hF N).f, (r16_or_D F hF N).q, fun R k a b c d e g h i j => r16_or_d F N a b c d e g h i j (oK ⟨.sw 0, [], [.rw .ins .own]⟩ k)⟩ := FD.ct e0 (r16_or_D F hF N) N (fun R k a b c d e g h i j => r16_or_d F N a b c d e g h i j (oK ⟨.sw 0, [], [.rw .ins .own]⟩ k))
noncomputable def Fam_r16_expr_next (F : Fam_r16_expr) (N : Nat) : Fam_r16_expr where
 r16_expr := fun R Kind N_ Name Kids At Vars Ports Timers Nodes k0 => r16_expr_d F N Kind N_ Name Kids At Vars Ports Timers Nodes k0
 r16_and := fun R Kind N_ Name Kids At Vars Ports Timers Nodes k0 => r16_and_d F N Kind N_ Name Kids At Vars Ports Timers Nodes k0
 r16_or := fun R Kind N_ Name Kids At Vars Ports Timers Nodes k0 => r16_or_d F N Kind N_ Name Kids At Vars Ports Timers Nodes k0
noncomputable def Fam_r16_expr_at (N : Nat) : Nat → Fam_r16_expr
 | 0 => { r16_expr := fun _ _ _ _ _ _ _ _ _ _ _ => none, r16_and := fun _ _ _ _ _ _ _ _ _ _ _ => none, r16_or := fun _ _ _ _ _ _ _ _ _ _ _ => none }
 | d + 1 => Fam_r16_expr_next (Fam_r16_expr_at N d) N
theorem Fam_r16_expr_at_ok (N : Nat) : ∀ d, Fam_r16_expr_ok (Fam_r16_expr_at N d)
 | 0 => { r16_expr := Ct.ok_none, r16_and := Ct.ok_none, r16_or := Ct.ok_none }
 | d + 1 => { r16_expr := r16_expr_okF _ (Fam_r16_expr_at_ok N d) N, r16_and := r16_and_okF _ (Fam_r16_expr_at_ok N d) N, r16_or := r16_or_okF _ (Fam_r16_expr_at_ok N d) N }
noncomputable def r16_expr {R : Type} (N : Nat) (Kind N_ : Int) (Name : List UInt8) (Kids : List Expr) (At : Int) (Vars Ports Timers : List (List UInt8)) (Nodes : List Node) (k0 : (List Ins) → Option R) : Option R := (Fam_r16_expr_at N N).r16_expr R Kind N_ Name Kids At Vars Ports Timers Nodes k0
noncomputable def r16_expr_S (N : Nat) : OC E0 := ⟨r16_expr_C (Fam_r16_expr_at N N), (Fam_r16_expr_at_ok N N).r16_expr⟩
noncomputable def r16_and {R : Type} (N : Nat) (Kind N_ : Int) (Name : List UInt8) (Kids : List Expr) (At : Int) (Vars Ports Timers : List (List UInt8)) (Nodes : List Node) (k0 : (List Ins) → Option R) : Option R := (Fam_r16_expr_at N N).r16_and R Kind N_ Name Kids At Vars Ports Timers Nodes k0
noncomputable def r16_or {R : Type} (N : Nat) (Kind N_ : Int) (Name : List UInt8) (Kids : List Expr) (At : Int) (Vars Ports Timers : List (List UInt8)) (Nodes : List Node) (k0 : (List Ins) → Option R) : Option R := (Fam_r16_expr_at N N).r16_or R Kind N_ Name Kids At Vars Ports Timers Nodes k0
noncomputable def r16_arg {R : Type} (N : Nat) (x : List Expr) (Vars Ports Timers : List (List UInt8)) (Nodes : List Node) (k0 : (List Ins) → Option R) : Option R :=
 if (((x.length : Nat) : Int) == 0) = true then
  (if ([(⟨1, 0, 0, []⟩ : Ins)]).length ≤ maxRow then (k0 ([(⟨1, 0, 0, []⟩ : Ins)])) else none)
 else
  ((at? x 0).bind fun e1 =>
 r16_expr N e1.Kind e1.N e1.Name e1.Kids e1.At Vars Ports Timers Nodes (fun r2 =>
 k0 r2))
noncomputable def r16_arg_D (N : Nat) : FD E0 := { f := 80, fn := Tryz.f80, q := ⟨[.ns, .t .expr, y1], []⟩, g := [r16_expr_S N], mode := fun | 12 => .own | 13 => .own | _ => .app }
noncomputable def r16_arg_S (N : Nat) : OC E0 := ⟨_, FD.ct e0 (r16_arg_D N) N (fun R k a b c d e => r16_arg N a b c d e (oK ⟨.sw 0, [], [.rw .ins .own]⟩ k))⟩
noncomputable def r16_arg_2 {R : Type} (N : Nat) (x : List Expr) (Vars Ports Timers : List (List UInt8)) (Nodes : List Node) (c : List Ins) (k0 : (List Ins) → Option R) : Option R :=
 if (((x.length : Nat) : Int) == 0) = true then
  (if c.length + ([(⟨1, 0, 0, []⟩ : Ins)]).length ≤ maxRow then (k0 (c ++ ([(⟨1, 0, 0, []⟩ : Ins)]))) else none)
 else
  ((at? x 0).bind fun e1 =>
 r16_expr_2 N e1.Kind e1.N e1.Name e1.Kids e1.At Vars Ports Timers Nodes c (fun r2 =>
 k0 r2))
noncomputable def r16_arg_2_D (N : Nat) : FD E0 := { f := 80, fn := Tryz.f80, q := ⟨[.sw 0, .t .expr, y1], [.rw .ins .own]⟩, g := [r16_expr_2_S N], mode := fun | 12 => .own | 13 => .own | _ => .app }
noncomputable def r16_arg_2_S (N : Nat) : OC E0 := ⟨_, FD.ct e0 (r16_arg_2_D N) N (fun R k a b c d e g => r16_arg_2 N a b c d e g (oK ⟨.sw 1, [.g], [.rw .ins .own]⟩ k))⟩
structure Fam_r16_block_2 where
 r16_block_2 : (R : Type) → (List Act) → (List (List UInt8)) → (List (List UInt8)) → (List (List UInt8)) → (List Node) → (List Ins) → ((List Ins) → Option R) → Option R
 r16_act_2 : (R : Type) → Int → (List UInt8) → (List UInt8) → (List Expr) → Int → (List Act) → (List Act) → Int → (List (List UInt8)) → (List (List UInt8)) → (List (List UInt8)) → (List Node) → (List Ins) → ((List Ins) → Option R) → Option R
def r16_block_2_q : Pat S := ⟨[.sw 0, .t .act, y1], [.rw .ins .own]⟩
noncomputable def r16_block_2_C (F : Fam_r16_block_2) : Ct S := ⟨29, r16_block_2_q, fun R k a b c d e g => F.r16_block_2 R a b c d e g (oK ⟨.sw 1, [.g], [.rw .ins .own]⟩ k)⟩
def r16_act_2_q : Pat S := ⟨[.sw 0, y6, y1], [.rw .ins .own]⟩
noncomputable def r16_act_2_C (F : Fam_r16_block_2) : Ct S := ⟨52, r16_act_2_q, fun R k a b c d e g h i j l m o p => F.r16_act_2 R a b c d e g h i j l m o p (oK ⟨.sw 1, [.g], [.rw .ins .own]⟩ k)⟩
structure Fam_r16_block_2_ok (F : Fam_r16_block_2) : Prop where
 r16_block_2 : (r16_block_2_C F).ok E0
 r16_act_2 : (r16_act_2_C F).ok E0
noncomputable def r16_block_2_l0_b (F : Fam_r16_block_2) {R : Type} (N : Nat) (l_10 : List Act) (n_13 n_14 n_15 : List (List UInt8)) (n_16 : List Node) (kp0 : (List Ins) → Option R) (rec : Int → (List Ins) → Option R) (i_11 : Int) (c_12 : List Ins) : Option R :=
 if (decide (i_11 < ((l_10.length : Nat) : Int))) = true then
  ((at? l_10 i_11).bind fun e17 =>
 F.r16_act_2 _ e17.Kind e17.Name e17.Event e17.X e17.N e17.Then e17.Else e17.At n_13 n_14 n_15 n_16 c_12 (fun r18 =>
 rec (IntKind.wrap .i64 (i_11 + 1)) r18))
 else
  (kp0 c_12)
noncomputable def r16_block_2_l0 (F : Fam_r16_block_2) {R : Type} (N : Nat) (l_10 : List Act) (n_13 n_14 n_15 : List (List UInt8)) (n_16 : List Node) (kp0 : (List Ins) → Option R) : Nat → Int → (List Ins) → Option R
 | 0 => fun _ _ => none
 | n + 1 => fun i_11 c_12 => r16_block_2_l0_b F N l_10 n_13 n_14 n_15 n_16 kp0 (r16_block_2_l0 F N l_10 n_13 n_14 n_15 n_16 kp0 n) i_11 c_12
noncomputable def r16_block_2_d (F : Fam_r16_block_2) {R : Type} (N : Nat) (l : List Act) (Vars Ports Timers : List (List UInt8)) (Nodes : List Node) (c : List Ins) (k0 : (List Ins) → Option R) : Option R :=
 r16_block_2_l0 F N l Vars Ports Timers Nodes (fun y19 =>
 k0 y19) N 0 c
noncomputable def r16_block_2_D (F : Fam_r16_block_2) (hF : Fam_r16_block_2_ok F) (N : Nat) : FD E0 := { f := 29, fn := Tryz.f29, q := r16_block_2_q, loops := [{ cur := 0, live := [0, 1, 5, 7], fix := [(⟨0, []⟩, .fresh .ins .own)], out := fun | .exit 0 => ([0], []) | _ => ([], []), q := ⟨[.sw 1, .t .act, .p 2 0 0, .i .i64], [.g, .rw .ins .own, z37]⟩, G := fun R K n a b c d e g h => r16_block_2_l0 F N a d e g h (pK ⟨[.sw 1], [.g, .rw .ins .own]⟩ (K (.exit 0))) n b c, B := fun R K rec a b c d e g h => r16_block_2_l0_b F N a d e g h (pK ⟨[.sw 1], [.g, .rw .ins .own]⟩ (K (.exit 0))) (fun b c => rec a b c d e g h) b c }], g := [⟨r16_act_2_C F, hF.r16_act_2⟩] }
theorem r16_block_2_okF (F : Fam_r16_block_2) (hF : Fam_r16_block_2_ok F) (N : Nat) : Ct.ok E0 ⟨(r16_block_2_D F hF N).f, (r16_block_2_D F hF N).q, fun R k a b c d e g => r16_block_2_d F N a b c d e g (oK ⟨.sw 1, [.g], [.rw .ins .own]⟩ k)⟩ := FD.ct e0 (r16_block_2_D F hF N) N (fun R k a b c d e g => r16_block_2_d F N a b c d e g (oK ⟨.sw 1, [.g], [.rw .ins .own]⟩ k))
noncomputable def r16_act_2_d (F : Fam_r16_block_2) {R : Type} (N : Nat) (Kind : Int) (Name Event : List UInt8) (X : List Expr) (N_ : Int) (Then Else : List Act) (At : Int) (Vars Ports Timers : List (List UInt8)) (Nodes : List Node) (c : List Ins) (k0 : (List Ins) → Option R) : Option R :=
 if (Kind == 1) = true then
  (r16_arg_2 N X Vars Ports Timers Nodes c (fun r1 =>
  r16_place N Vars Name (fun r2 =>
  if r1.length + ([(⟨18, r2, 0, []⟩ : Ins)]).length ≤ maxRow then (k0 (r1 ++ ([(⟨18, r2, 0, []⟩ : Ins)]))) else none)))
 else
  (if (Kind == 2) = true then
   (r16_arg_2 N X Vars Ports Timers Nodes c (fun r3 =>
   if r3.length + [(⟨19, 0, 0, Event⟩ : Ins)].length ≤ maxRow then (k0 (r3 ++ [(⟨19, 0, 0, Event⟩ : Ins)])) else none))
  else
   (if (Kind == 3) = true then
    (r16_arg_2 N X Vars Ports Timers Nodes c (fun r4 =>
    r16_place N Ports Name (fun r5 =>
    if r4.length + [(⟨20, r5, 0, Event⟩ : Ins)].length ≤ maxRow then (k0 (r4 ++ [(⟨20, r5, 0, Event⟩ : Ins)])) else none)))
   else
    (if (Kind == 4) = true then
     (r16_arg_2 N X Vars Ports Timers Nodes c (fun r6 =>
     r16_place N Timers Name (fun r7 =>
     if r6.length + ([(⟨21, r7, 0, []⟩ : Ins)]).length ≤ maxRow then (k0 (r6 ++ ([(⟨21, r7, 0, []⟩ : Ins)]))) else none)))
    else
     (if (Kind == 5) = true then
      (r16_place N Timers Name (fun r8 =>
      if c.length + ([(⟨22, r8, 0, []⟩ : Ins)]).length ≤ maxRow then (k0 (c ++ ([(⟨22, r8, 0, []⟩ : Ins)]))) else none))
     else
      (if (Kind == 7) = true then
       (if c.length + ([(⟨25, 0, N_, []⟩ : Ins)]).length ≤ maxRow then (F.r16_block_2 _ Then Vars Ports Timers Nodes (c ++ ([(⟨25, 0, N_, []⟩ : Ins)])) (fun r9 =>
        if r9.length + ([(⟨26, ((c.length : Nat) : Int), 0, []⟩ : Ins)]).length ≤ maxRow then (if (0 : Int) ≤ ((c.length : Nat) : Int) ∧ ((c.length : Nat) : Int) < ((r9 ++ ([(⟨26, ((c.length : Nat) : Int), 0, []⟩ : Ins)])).length : Int) then (match (r9 ++ ([(⟨26, ((c.length : Nat) : Int), 0, []⟩ : Ins)]))[((c.length : Nat) : Int).toNat]? with
        | some e10 => (k0 ((r9 ++ ([(⟨26, ((c.length : Nat) : Int), 0, []⟩ : Ins)])).set (((c.length : Nat) : Int).toNat) (⟨e10.Op, (((r9 ++ ([(⟨26, ((c.length : Nat) : Int), 0, []⟩ : Ins)])).length : Nat) : Int), e10.N, e10.S⟩ : Ins)))
        | none => none) else none) else none)) else none)
      else
       ((at? X 0).bind fun e11 =>
 r16_expr_2 N e11.Kind e11.N e11.Name e11.Kids e11.At Vars Ports Timers Nodes c (fun r12 =>
 if r12.length + ([(⟨24, 0, 0, []⟩ : Ins)]).length ≤ maxRow then (F.r16_block_2 _ Then Vars Ports Timers Nodes (r12 ++ ([(⟨24, 0, 0, []⟩ : Ins)])) (fun r13 =>
  if (decide (((Else.length : Nat) : Int) > 0)) = true then
  (if r13.length + ([(⟨23, 0, 0, []⟩ : Ins)]).length ≤ maxRow then (if (0 : Int) ≤ ((r12.length : Nat) : Int) ∧ ((r12.length : Nat) : Int) < ((r13 ++ ([(⟨23, 0, 0, []⟩ : Ins)])).length : Int) then (match (r13 ++ ([(⟨23, 0, 0, []⟩ : Ins)]))[((r12.length : Nat) : Int).toNat]? with
   | some e14 => (F.r16_block_2 _ Else Vars Ports Timers Nodes ((r13 ++ ([(⟨23, 0, 0, []⟩ : Ins)])).set (((r12.length : Nat) : Int).toNat) (⟨e14.Op, (((r13 ++ ([(⟨23, 0, 0, []⟩ : Ins)])).length : Nat) : Int), e14.N, e14.S⟩ : Ins)) (fun r15 =>
  if (0 : Int) ≤ ((r13.length : Nat) : Int) ∧ ((r13.length : Nat) : Int) < (r15.length : Int) then (match r15[((r13.length : Nat) : Int).toNat]? with
   | some e16 => (k0 (r15.set (((r13.length : Nat) : Int).toNat) (⟨e16.Op, ((r15.length : Nat) : Int), e16.N, e16.S⟩ : Ins)))
   | none => none) else none))
   | none => none) else none) else none)
 else
  (if (0 : Int) ≤ ((r12.length : Nat) : Int) ∧ ((r12.length : Nat) : Int) < (r13.length : Int) then (match r13[((r12.length : Nat) : Int).toNat]? with
  | some e17 => (k0 (r13.set (((r12.length : Nat) : Int).toNat) (⟨e17.Op, ((r13.length : Nat) : Int), e17.N, e17.S⟩ : Ins)))
  | none => none) else none))) else none)))))))
noncomputable def r16_act_2_D (F : Fam_r16_block_2) (hF : Fam_r16_block_2_ok F) (N : Nat) : FD E0 := { f := 52, fn := Tryz.f52, q := r16_act_2_q, g := [⟨r16_block_2_C F, hF.r16_block_2⟩, r16_arg_2_S N, r16_place_S N, r16_expr_2_S N], mode := fun | 25 => .own | 26 => .own | 37 => .own | 38 => .own | 54 => .own | 55 => .own | 69 => .own | 70 => .own | 80 => .own | 81 => .own | 90 => .own | 91 => .own | 99 => .own | 100 => .own | 119 => .own | 120 => .own | 133 => .own | 134 => .own | _ => .app }
theorem r16_act_2_okF (F : Fam_r16_block_2) (hF : Fam_r16_block_2_ok F) (N : Nat) : Ct.ok E0 ⟨(r16_act_2_D F hF N).f, (r16_act_2_D F hF N).q, fun R k a b c d e g h i j l m o p => r16_act_2_d F N a b c d e g h i j l m o p (oK ⟨.sw 1, [.g], [.rw .ins .own]⟩ k)⟩ := FD.ct e0 (r16_act_2_D F hF N) N (fun R k a b c d e g h i j l m o p => r16_act_2_d F N a b c d e g h i j l m o p (oK ⟨.sw 1, [.g], [.rw .ins .own]⟩ k))
noncomputable def Fam_r16_block_2_next (F : Fam_r16_block_2) (N : Nat) : Fam_r16_block_2 where
 r16_block_2 := fun R l Vars Ports Timers Nodes c k0 => r16_block_2_d F N l Vars Ports Timers Nodes c k0
 r16_act_2 := fun R Kind Name Event X N_ Then Else At Vars Ports Timers Nodes c k0 => r16_act_2_d F N Kind Name Event X N_ Then Else At Vars Ports Timers Nodes c k0
noncomputable def Fam_r16_block_2_at (N : Nat) : Nat → Fam_r16_block_2
 | 0 => { r16_block_2 := fun _ _ _ _ _ _ _ _ => none, r16_act_2 := fun _ _ _ _ _ _ _ _ _ _ _ _ _ _ _ => none }
 | d + 1 => Fam_r16_block_2_next (Fam_r16_block_2_at N d) N
theorem Fam_r16_block_2_at_ok (N : Nat) : ∀ d, Fam_r16_block_2_ok (Fam_r16_block_2_at N d)
 | 0 => { r16_block_2 := Ct.ok_none, r16_act_2 := Ct.ok_none }
 | d + 1 => { r16_block_2 := r16_block_2_okF _ (Fam_r16_block_2_at_ok N d) N, r16_act_2 := r16_act_2_okF _ (Fam_r16_block_2_at_ok N d) N }
noncomputable def r16_block_2 {R : Type} (N : Nat) (l : List Act) (Vars Ports Timers : List (List UInt8)) (Nodes : List Node) (c : List Ins) (k0 : (List Ins) → Option R) : Option R := (Fam_r16_block_2_at N N).r16_block_2 R l Vars Ports Timers Nodes c k0
noncomputable def r16_block_2_S (N : Nat) : OC E0 := ⟨r16_block_2_C (Fam_r16_block_2_at N N), (Fam_r16_block_2_at_ok N N).r16_block_2⟩
noncomputable def r16_act_2 {R : Type} (N : Nat) (Kind : Int) (Name Event : List UInt8) (X : List Expr) (N_ : Int) (Then Else : List Act) (At : Int) (Vars Ports Timers : List (List UInt8)) (Nodes : List Node) (c : List Ins) (k0 : (List Ins) → Option R) : Option R := (Fam_r16_block_2_at N N).r16_act_2 R Kind Name Event X N_ Then Else At Vars Ports Timers Nodes c k0
noncomputable def r16_act_2_S (N : Nat) : OC E0 := ⟨r16_act_2_C (Fam_r16_block_2_at N N), (Fam_r16_block_2_at_ok N N).r16_act_2⟩
noncomputable def r16_act {R : Type} (N : Nat) (Kind : Int) (Name Event : List UInt8) (X : List Expr) (N_ : Int) (Then Else : List Act) (At : Int) (Vars Ports Timers : List (List UInt8)) (Nodes : List Node) (k0 : (List Ins) → Option R) : Option R :=
 if (Kind == 1) = true then
  (r16_arg N X Vars Ports Timers Nodes (fun r1 =>
  r16_place N Vars Name (fun r2 =>
  if r1.length + ([(⟨18, r2, 0, []⟩ : Ins)]).length ≤ maxRow then (k0 (r1 ++ ([(⟨18, r2, 0, []⟩ : Ins)]))) else none)))
 else
  (if (Kind == 2) = true then
   (r16_arg N X Vars Ports Timers Nodes (fun r3 =>
   if r3.length + [(⟨19, 0, 0, Event⟩ : Ins)].length ≤ maxRow then (k0 (r3 ++ [(⟨19, 0, 0, Event⟩ : Ins)])) else none))
  else
   (if (Kind == 3) = true then
    (r16_arg N X Vars Ports Timers Nodes (fun r4 =>
    r16_place N Ports Name (fun r5 =>
    if r4.length + [(⟨20, r5, 0, Event⟩ : Ins)].length ≤ maxRow then (k0 (r4 ++ [(⟨20, r5, 0, Event⟩ : Ins)])) else none)))
   else
    (if (Kind == 4) = true then
     (r16_arg N X Vars Ports Timers Nodes (fun r6 =>
     r16_place N Timers Name (fun r7 =>
     if r6.length + ([(⟨21, r7, 0, []⟩ : Ins)]).length ≤ maxRow then (k0 (r6 ++ ([(⟨21, r7, 0, []⟩ : Ins)]))) else none)))
    else
     (if (Kind == 5) = true then
      (r16_place N Timers Name (fun r8 =>
      if ([(⟨22, r8, 0, []⟩ : Ins)]).length ≤ maxRow then (k0 ([(⟨22, r8, 0, []⟩ : Ins)])) else none))
     else
      (if (Kind == 7) = true then
       (if ([(⟨25, 0, N_, []⟩ : Ins)]).length ≤ maxRow then (r16_block_2 N Then Vars Ports Timers Nodes ([(⟨25, 0, N_, []⟩ : Ins)]) (fun r9 =>
        if r9.length + ([(⟨26, 0, 0, []⟩ : Ins)]).length ≤ maxRow then (if (0 : Int) ≤ 0 ∧ 0 < ((r9 ++ ([(⟨26, 0, 0, []⟩ : Ins)])).length : Int) then (match (r9 ++ ([(⟨26, 0, 0, []⟩ : Ins)]))[(Int.toNat 0)]? with
        | some e10 => (k0 ((r9 ++ ([(⟨26, 0, 0, []⟩ : Ins)])).set (Int.toNat 0) (⟨e10.Op, (((r9 ++ ([(⟨26, 0, 0, []⟩ : Ins)])).length : Nat) : Int), e10.N, e10.S⟩ : Ins)))
        | none => none) else none) else none)) else none)
      else
       ((at? X 0).bind fun e11 =>
 r16_expr N e11.Kind e11.N e11.Name e11.Kids e11.At Vars Ports Timers Nodes (fun r12 =>
 if r12.length + ([(⟨24, 0, 0, []⟩ : Ins)]).length ≤ maxRow then (r16_block_2 N Then Vars Ports Timers Nodes (r12 ++ ([(⟨24, 0, 0, []⟩ : Ins)])) (fun r13 =>
  if (decide (((Else.length : Nat) : Int) > 0)) = true then
  (if r13.length + ([(⟨23, 0, 0, []⟩ : Ins)]).length ≤ maxRow then (if (0 : Int) ≤ ((r12.length : Nat) : Int) ∧ ((r12.length : Nat) : Int) < ((r13 ++ ([(⟨23, 0, 0, []⟩ : Ins)])).length : Int) then (match (r13 ++ ([(⟨23, 0, 0, []⟩ : Ins)]))[((r12.length : Nat) : Int).toNat]? with
   | some e14 => (r16_block_2 N Else Vars Ports Timers Nodes ((r13 ++ ([(⟨23, 0, 0, []⟩ : Ins)])).set (((r12.length : Nat) : Int).toNat) (⟨e14.Op, (((r13 ++ ([(⟨23, 0, 0, []⟩ : Ins)])).length : Nat) : Int), e14.N, e14.S⟩ : Ins)) (fun r15 =>
  if (0 : Int) ≤ ((r13.length : Nat) : Int) ∧ ((r13.length : Nat) : Int) < (r15.length : Int) then (match r15[((r13.length : Nat) : Int).toNat]? with
   | some e16 => (k0 (r15.set (((r13.length : Nat) : Int).toNat) (⟨e16.Op, ((r15.length : Nat) : Int), e16.N, e16.S⟩ : Ins)))
   | none => none) else none))
   | none => none) else none) else none)
 else
  (if (0 : Int) ≤ ((r12.length : Nat) : Int) ∧ ((r12.length : Nat) : Int) < (r13.length : Int) then (match r13[((r12.length : Nat) : Int).toNat]? with
  | some e17 => (k0 (r13.set (((r12.length : Nat) : Int).toNat) (⟨e17.Op, ((r13.length : Nat) : Int), e17.N, e17.S⟩ : Ins)))
  | none => none) else none))) else none)))))))
noncomputable def r16_act_D (N : Nat) : FD E0 := { f := 52, fn := Tryz.f52, q := ⟨[.ns, y6, y1], []⟩, g := [r16_block_2_S N, r16_arg_S N, r16_place_S N, r16_expr_S N], mode := fun | 25 => .own | 26 => .own | 37 => .own | 38 => .own | 54 => .own | 55 => .own | 69 => .own | 70 => .own | 80 => .own | 81 => .own | 90 => .own | 91 => .own | 99 => .own | 100 => .own | 119 => .own | 120 => .own | 133 => .own | 134 => .own | _ => .app }
noncomputable def r16_act_S (N : Nat) : OC E0 := ⟨_, FD.ct e0 (r16_act_D N) N (fun R k a b c d e g h i j l m o => r16_act N a b c d e g h i j l m o (oK ⟨.sw 0, [], [.rw .ins .own]⟩ k))⟩
noncomputable def r16_block_l0_b {R : Type} (N : Nat) (l_9 : List Act) (n_12 n_13 n_14 : List (List UInt8)) (n_15 : List Node) (kp0 : (List Ins) → Option R) (rec : Int → (List Ins) → Option R) (i_10 : Int) (c_11 : List Ins) : Option R :=
 if (decide (i_10 < ((l_9.length : Nat) : Int))) = true then
  ((at? l_9 i_10).bind fun e16 =>
 r16_act_2 N e16.Kind e16.Name e16.Event e16.X e16.N e16.Then e16.Else e16.At n_12 n_13 n_14 n_15 c_11 (fun r17 =>
 rec (IntKind.wrap .i64 (i_10 + 1)) r17))
 else
  (kp0 c_11)
noncomputable def r16_block_l0 {R : Type} (N : Nat) (l_9 : List Act) (n_12 n_13 n_14 : List (List UInt8)) (n_15 : List Node) (kp0 : (List Ins) → Option R) : Nat → Int → (List Ins) → Option R
 | 0 => fun _ _ => none
 | n + 1 => fun i_10 c_11 => r16_block_l0_b N l_9 n_12 n_13 n_14 n_15 kp0 (r16_block_l0 N l_9 n_12 n_13 n_14 n_15 kp0 n) i_10 c_11
noncomputable def r16_block {R : Type} (N : Nat) (l : List Act) (Vars Ports Timers : List (List UInt8)) (Nodes : List Node) (k0 : (List Ins) → Option R) : Option R :=
 r16_block_l0 N l Vars Ports Timers Nodes (fun y18 =>
 k0 y18) N 0 ([] : List Ins)
noncomputable def r16_block_D (N : Nat) : FD E0 := { f := 29, fn := Tryz.f29, q := ⟨[.ns, .t .act, y1], []⟩, loops := [{ cur := 0, live := [0, 1, 5, 7], fix := [(⟨0, []⟩, .row .ins .own)], out := fun | .exit 0 => ([0], []) | _ => ([], []), q := ⟨[.sw 0, .t .act, .p 1 0 0, .i .i64], [.rw .ins .own, z37]⟩, G := fun R K n a b c d e g h => r16_block_l0 N a d e g h (pK ⟨[.sw 0], [.rw .ins .own]⟩ (K (.exit 0))) n b c, B := fun R K rec a b c d e g h => r16_block_l0_b N a d e g h (pK ⟨[.sw 0], [.rw .ins .own]⟩ (K (.exit 0))) (fun b c => rec a b c d e g h) b c }], g := [r16_act_S N, r16_act_2_S N] }
noncomputable def r16_block_S (N : Nat) : OC E0 := ⟨_, FD.ct e0 (r16_block_D N) N (fun R k a b c d e => r16_block N a b c d e (oK ⟨.sw 0, [], [.rw .ins .own]⟩ k))⟩
noncomputable def r16_Block {R : Type} (N : Nat) (l : List Act) (Vars Ports Timers : List (List UInt8)) (Nodes : List Node) (k0 : (List Ins) → Option R) : Option R :=
 r16_block N l Vars Ports Timers Nodes (fun r1 =>
 k0 r1)
noncomputable def r16_Block_D (N : Nat) : FD E0 := { f := 10, fn := Tryz.f10, q := ⟨[.t .act, y1], []⟩, g := [r16_block_S N], exit := [(⟨4, []⟩, .tree .ins)] }
noncomputable def r16_Block_S (N : Nat) : OC E0 := ⟨_, FD.ct e0 (r16_Block_D N) N (fun R k a b c d e => r16_Block N a b c d e (oK ⟨.t .ins, [], []⟩ k))⟩
noncomputable def r30_Same {R : Type} (N : Nat) (a b : List Mark) (k0 : Bool → Option R) : Option R :=
 r30_Less N a b (fun r1 =>
 (ifB (!r1) true (r30_Less N b a (fun r2 =>
 some (!r2))) (some false)).bind fun c3 =>
 k0 c3)
noncomputable def r30_Same_D (N : Nat) : FD E0 := { f := 30, fn := Tryz.f30, q := ⟨[.t .rmark, .t .rmark], []⟩, g := [r30_Less_S N] }
noncomputable def r30_Same_S (N : Nat) : OC E0 := ⟨_, FD.ct e0 (r30_Same_D N) N (fun R k a b => r30_Same N a b (oK ⟨.b, [], []⟩ k))⟩
def z38 : ShO S := .bx [.i .i64, .t .i64, .t .msg, .t .effc, .i .i64, .i .i64]
noncomputable def l30_fits_l0_b {R : Type} (N : Nat) (l_1 : List Mark) (d_3 : Int) (d_4 : List Int) (d_5 : List Msg) (d_6 : List Effc) (d_7 d_8 : Int) (kp0 : (List Mark) → (List Mark) → Option R) (rec : Int → (List Mark) → (List Mark) → Option R) (i_2 : Int) (raised_9 sent_10 : List Mark) : Option R :=
 if (decide (i_2 < ((l_1.length : Nat) : Int))) = true then
  ((at? l_1 i_2).bind fun e11 =>
 if (decide (e11.Port < 0)) = true then
  ((at? l_1 i_2).bind fun e12 =>
  if raised_9.length + [e12].length ≤ maxRow then (rec (IntKind.wrap .i64 (i_2 + 1)) (raised_9 ++ [e12]) sent_10) else none)
 else
  ((at? l_1 i_2).bind fun e13 =>
  if sent_10.length + [e13].length ≤ maxRow then (rec (IntKind.wrap .i64 (i_2 + 1)) raised_9 (sent_10 ++ [e13])) else none))
 else
  (kp0 raised_9 sent_10)
noncomputable def l30_fits_l0 {R : Type} (N : Nat) (l_1 : List Mark) (d_3 : Int) (d_4 : List Int) (d_5 : List Msg) (d_6 : List Effc) (d_7 d_8 : Int) (kp0 : (List Mark) → (List Mark) → Option R) : Nat → Int → (List Mark) → (List Mark) → Option R
 | 0 => fun _ _ _ => none
 | n + 1 => fun i_2 raised_9 sent_10 => l30_fits_l0_b N l_1 d_3 d_4 d_5 d_6 d_7 d_8 kp0 (l30_fits_l0 N l_1 d_3 d_4 d_5 d_6 d_7 d_8 kp0 n) i_2 raised_9 sent_10
noncomputable def l30_fits_l2_b {R : Type} (N : Nat) (d_17 : Int) (d_18 : List Int) (d_19 : List Msg) (d_20 : List Effc) (d_21 d_22 : Int) (raised_23 sent_24 : List Mark) (kp0 : (List Mark) → Option R) (rec : Int → (List Mark) → Option R) (i_16 : Int) (a_25 : List Mark) : Option R :=
 if (decide (i_16 < ((d_19.length : Nat) : Int))) = true then
  ((at? d_19 i_16).bind fun e26 =>
 if a_25.length + [(⟨(-1), e26.Event⟩ : Mark)].length ≤ maxRow then (rec (IntKind.wrap .i64 (i_16 + 1)) (a_25 ++ [(⟨(-1), e26.Event⟩ : Mark)])) else none)
 else
  (kp0 a_25)
noncomputable def l30_fits_l2 {R : Type} (N : Nat) (d_17 : Int) (d_18 : List Int) (d_19 : List Msg) (d_20 : List Effc) (d_21 d_22 : Int) (raised_23 sent_24 : List Mark) (kp0 : (List Mark) → Option R) : Nat → Int → (List Mark) → Option R
 | 0 => fun _ _ => none
 | n + 1 => fun i_16 a_25 => l30_fits_l2_b N d_17 d_18 d_19 d_20 d_21 d_22 raised_23 sent_24 kp0 (l30_fits_l2 N d_17 d_18 d_19 d_20 d_21 d_22 raised_23 sent_24 kp0 n) i_16 a_25
noncomputable def l30_fits_l4_b {R : Type} (N : Nat) (d_51 : Int) (d_52 : List Int) (d_53 : List Msg) (d_54 : List Effc) (d_55 d_56 : Int) (raised_57 sent_58 a_59 : List Mark) (kp0 : (List Mark) → Option R) (rec : Int → (List Mark) → Option R) (i_50 : Int) (b_60 : List Mark) : Option R :=
 if (decide (i_50 < ((d_54.length : Nat) : Int))) = true then
  ((at? d_54 i_50).bind fun e61 =>
 if (e61.Kind == 1) = true then
  ((at? d_54 i_50).bind fun e62 =>
  (at? d_54 i_50).bind fun e63 =>
  if b_60.length + [(⟨e62.A, e63.Msg.Event⟩ : Mark)].length ≤ maxRow then (rec (IntKind.wrap .i64 (i_50 + 1)) (b_60 ++ [(⟨e62.A, e63.Msg.Event⟩ : Mark)])) else none)
 else
  (rec (IntKind.wrap .i64 (i_50 + 1)) b_60))
 else
  (kp0 b_60)
noncomputable def l30_fits_l4 {R : Type} (N : Nat) (d_51 : Int) (d_52 : List Int) (d_53 : List Msg) (d_54 : List Effc) (d_55 d_56 : Int) (raised_57 sent_58 a_59 : List Mark) (kp0 : (List Mark) → Option R) : Nat → Int → (List Mark) → Option R
 | 0 => fun _ _ => none
 | n + 1 => fun i_50 b_60 => l30_fits_l4_b N d_51 d_52 d_53 d_54 d_55 d_56 raised_57 sent_58 a_59 kp0 (l30_fits_l4 N d_51 d_52 d_53 d_54 d_55 d_56 raised_57 sent_58 a_59 kp0 n) i_50 b_60
noncomputable def l30_fits_c15 {R : Type} (N : Nat) (d_28 : Int) (d_29 : List Int) (d_30 : List Msg) (d_31 : List Effc) (d_32 d_33 : Int) (raised_34 sent_35 a_36 : List Mark) (kp0 : Bool → Option R) : Option R :=
 l30_fits_l4 N d_28 d_29 d_30 d_31 d_32 d_33 raised_34 sent_35 a_36 (fun y64 =>
 l30_marks N raised_34 (fun r65 =>
 l30_marks N a_36 (fun r66 =>
 r30_Same N r65 r66 (fun r67 =>
 (ifB r67 true (l30_marks N sent_35 (fun r68 =>
 l30_marks N y64 (fun r69 =>
 r30_Same N r68 r69 (fun r70 =>
 some r70)))) (some false)).bind fun c71 =>
 kp0 c71)))) N 0 ([] : List Mark)
noncomputable def l30_fits {R : Type} (N : Nat) (l : List Mark) (Value : Int) (Vars : List Int) (Raised : List Msg) (Effects : List Effc) (Cost Code : Int) (k0 : Bool → Option R) : Option R :=
 l30_fits_l0 N l Value Vars Raised Effects Cost Code (fun y14 y15 =>
 l30_fits_l2 N Value Vars Raised Effects Cost Code y14 y15 (fun y27 =>
 if (Code != 0) = true then
  (if y27.length + ([(⟨(-1), [101, 114, 114, 111, 114]⟩ : Mark)]).length ≤ maxRow then (l30_fits_c15 N Value Vars Raised Effects Cost Code y14 y15 (y27 ++ ([(⟨(-1), [101, 114, 114, 111, 114]⟩ : Mark)])) (fun y72 =>
   k0 y72)) else none)
 else
  (l30_fits_c15 N Value Vars Raised Effects Cost Code y14 y15 y27 (fun y73 =>
  k0 y73))) N 0 ([] : List Mark)) N 0 ([] : List Mark) ([] : List Mark)
noncomputable def l30_fits_D (N : Nat) : FD E0 := { f := 11, fn := Tryz.f11, q := ⟨[.t .mark, y5], []⟩, loops := [{ cur := 0, live := [0, 3, 5, 6, 7], fix := [(⟨5, []⟩, .row .mark .app), (⟨6, []⟩, .row .mark .app)], out := fun | .exit 0 => ([3, 5, 6], []) | _ => ([], []), q := ⟨[.t .mark, .p 0 0 0, .sw 1, .sw 2, .i .i64], [z38, .rw .mark .app, .rw .mark .app]⟩, G := fun R K n a b c d e g h i j l => l30_fits_l0 N a c d e g h i (pK ⟨[.p 0 0 0, .sw 1, .sw 2], [z38, .rw .mark .app, .rw .mark .app]⟩ (K (.exit 0)) c d e g h i) n b j l, B := fun R K rec a b c d e g h i j l => l30_fits_l0_b N a c d e g h i (pK ⟨[.p 0 0 0, .sw 1, .sw 2], [z38, .rw .mark .app, .rw .mark .app]⟩ (K (.exit 0)) c d e g h i) (fun b j l => rec a b c d e g h i j l) b j l }, { cur := 2, live := [3, 5, 6, 8, 9, 10], fix := [(⟨8, []⟩, .row .mark .app)], out := fun | .exit 2 => ([3, 5, 6, 8, 9], []) | _ => ([], []), q := ⟨[.p 0 0 0, .sw 1, .sw 2, .sw 3, .ns, .i .i64], [z38, .rw .mark .app, .rw .mark .app, .rw .mark .app]⟩, G := fun R K n a b c d e g h i j l => l30_fits_l2 N b c d e g h i j (pK ⟨[.p 0 0 0, .sw 1, .sw 2, .sw 3, .ns], [z38, .rw .mark .app, .rw .mark .app, .rw .mark .app]⟩ (K (.exit 2)) b c d e g h i j) n a l, B := fun R K rec a b c d e g h i j l => l30_fits_l2_b N b c d e g h i j (pK ⟨[.p 0 0 0, .sw 1, .sw 2, .sw 3, .ns], [z38, .rw .mark .app, .rw .mark .app, .rw .mark .app]⟩ (K (.exit 2)) b c d e g h i j) (fun a l => rec a b c d e g h i j l) a l }, { cur := 4, live := [3, 5, 6, 8, 9, 11], fix := [(⟨9, []⟩, .row .mark .app)], out := fun | .exit 4 => ([5, 6, 8, 9], []) | _ => ([], []), q := ⟨[.p 0 0 0, .sw 1, .sw 2, .sw 3, .sw 4, .i .i64], [z38, .rw .mark .app, .rw .mark .app, .rw .mark .app, .rw .mark .app]⟩, G := fun R K n a b c d e g h i j l m => l30_fits_l4 N b c d e g h i j l (pK ⟨[.sw 0, .sw 1, .sw 2, .sw 3], [.rw .mark .app, .rw .mark .app, .rw .mark .app, .rw .mark .app]⟩ (K (.exit 4)) i j l) n a m, B := fun R K rec a b c d e g h i j l m => l30_fits_l4_b N b c d e g h i j l (pK ⟨[.sw 0, .sw 1, .sw 2, .sw 3], [.rw .mark .app, .rw .mark .app, .rw .mark .app, .rw .mark .app]⟩ (K (.exit 4)) i j l) (fun a m => rec a b c d e g h i j l m) a m }], cuts := [{ key := 15, live := [3, 5, 6, 8, 9], out := fun | .ret => ([4], []) | _ => ([], []), q := ⟨[.p 0 0 0, .sw 1, .sw 2, .sw 3, .ns], [z38, .rw .mark .app, .rw .mark .app, .rw .mark .app]⟩, G := fun R K a b c d e g h i j => l30_fits_c15 N a b c d e g h i j (pK ⟨[.b], []⟩ (K .ret)) }], g := [r30_Same_S N, l30_marks_S N] }
noncomputable def l30_fits_S (N : Nat) : OC E0 := ⟨_, FD.ct e0 (l30_fits_D N) N (fun R k a b c d e g h => l30_fits N a b c d e g h (oK ⟨.b, [], []⟩ k))⟩
end Ef
