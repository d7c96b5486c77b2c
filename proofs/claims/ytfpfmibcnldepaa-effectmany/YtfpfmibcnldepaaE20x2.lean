/- E20_2: a part of the proof of EffectMany: lemmas on the evaluator and on the functions that the law reaches. -/
import Derived.Test.YtfpfmibcnldepaaE20x1
set_option maxRecDepth 100000
set_option linter.unusedVariables false
namespace Ef
open Go TE Go.Proofs
structure Fam_effect_rows_inner where
  effect_rows_inner : (R : Type) → (List Act) → (List (List UInt8)) → (List (List UInt8)) → (List (List UInt8)) → (List Node) → Bool → (List Next) → (List Int) → (List (List Sc × Int × Nat)) → Nat → (Bool → (List (List Sc × Int × Nat)) → Nat → (List Next) → (List Int) → Bool → (List (List Sc × Bool × Nat)) → Nat → (List (List Sc × Bool × Nat)) → Nat → Option R) → Option R
  effect_rows_acts : (R : Type) → (List Act) → (List (List UInt8)) → (List (List UInt8)) → (List (List UInt8)) → (List Node) → Bool → (List Next) → (List Int) → (List (List Sc × Int × Nat)) → Nat → Bool → (List (List Sc × Bool × Nat)) → Nat → (List (List Sc × Bool × Nat)) → Nat → (Bool → (List (List Sc × Int × Nat)) → Nat → Bool → (List (List Sc × Bool × Nat)) → Nat → (List Next) → (List Int) → (List (List Sc × Bool × Nat)) → Nat → Option R) → Option R
  effect_rows_choice : (R : Type) → Int → (List UInt8) → (List UInt8) → (List Expr) → Int → (List Act) → (List Act) → Int → (List (List UInt8)) → (List (List UInt8)) → (List (List UInt8)) → (List Node) → Bool → (List Next) → (List Int) → (List (List Sc × Int × Nat)) → Nat → Bool → (List (List Sc × Bool × Nat)) → Nat → (List (List Sc × Bool × Nat)) → Nat → (Bool → (List (List Sc × Int × Nat)) → Nat → Bool → (List (List Sc × Bool × Nat)) → Nat → (List Next) → (List Int) → (List (List Sc × Bool × Nat)) → Nat → Option R) → Option R

def effect_rows_inner_q : Pat S := ⟨[.p 0 0 0, .t .act], [z1, .rw .next .app, .rw .int .app, z2]⟩
noncomputable def effect_rows_inner_C (F : Fam_effect_rows_inner) : Ct S := ⟨25, effect_rows_inner_q, fun R k a b c d e g h i j l => F.effect_rows_inner R a b c d e g h i j l (fun m => oK ⟨.p 6 0 0, [z3, .rw .next .ro, .rw .int .ro, z2], [.rw .next .app, .rw .int .app, .bx [.m 7, .m 8, .b], .mx false [.int .i64] false .bool, .mx false [.int .i64] false .bool]⟩ k b c d e m h i)⟩
def effect_rows_acts_q : Pat S := ⟨[.p 0 0 0, .p 4 0 0, .t .act], [z1, .rw .next .app, .rw .int .app, z2, .bx [.m 5, .m 6, .b], .mx false [.int .i64] false .bool, .mx false [.int .i64] false .bool]⟩
noncomputable def effect_rows_acts_C (F : Fam_effect_rows_inner) : Ct S := ⟨47, effect_rows_acts_q, fun R k a b c d e g h i j l m o p q s => F.effect_rows_acts R a b c d e g h i j l m o p q s (fun t => oK ⟨.tp [], [z4, .rw .next .ro, .rw .int .ro, z2, .bx [.m 9, .m 6, .b], .g, .mx false [.int .i64] false .bool], [.rw .next .app, .rw .int .app, .mx false [.int .i64] false .bool]⟩ k b c d e t h i)⟩
def effect_rows_choice_q : Pat S := ⟨[.p 0 0 0, .p 4 0 0, y1], [z1, .rw .next .app, .rw .int .app, z2, .bx [.m 5, .m 6, .b], .mx false [.int .i64] false .bool, .mx false [.int .i64] false .bool]⟩
noncomputable def effect_rows_choice_C (F : Fam_effect_rows_inner) : Ct S := ⟨78, effect_rows_choice_q, fun R k a b c d e g h i j l m o p q s t u v w x y z => F.effect_rows_choice R a b c d e g h i j l m o p q s t u v w x y z (fun a1 b1 c1 d1 => oK ⟨.tp [], [z4, .rw .next .ro, .rw .int .ro, z2, .bx [.m 9, .m 6, .b], .mx false [.int .i64] false .bool, .mx false [.int .i64] false .bool], [.rw .next .app, .rw .int .app, .mx false [.int .i64] false .bool]⟩ k j l m o a1 q s b1 c1 d1 w x)⟩
structure Fam_effect_rows_inner_ok (F : Fam_effect_rows_inner) : Prop where
  effect_rows_inner : (effect_rows_inner_C F).okm E0
  effect_rows_acts : (effect_rows_acts_C F).okm E0
  effect_rows_choice : (effect_rows_choice_C F).okm E0

noncomputable def effect_rows_inner_d (F : Fam_effect_rows_inner) {R : Type} (N : Nat) (l : List Act) (Vars Ports Timers : List (List UInt8)) (Nodes : List Node) (many : Bool) (l_2 : List Next) (long : List Int) (known_L : List (List Sc × Int × Nat)) (known_cl : Nat) (k0 : Bool → (List (List Sc × Int × Nat)) → Nat → (List Next) → (List Int) → Bool → (List (List Sc × Bool × Nat)) → Nat → (List (List Sc × Bool × Nat)) → Nat → Option R) : Option R :=
  F.effect_rows_acts _ l Vars Ports Timers Nodes many l_2 long known_L known_cl false (updM [.int .i64 0] true 0 ([] : List (List Sc × Bool × Nat))) (if (findM [.int .i64 0] ([] : List (List Sc × Bool × Nat))).isSome = true then 0 else 0 + 1) ([] : List (List Sc × Bool × Nat)) 0 (fun (r1 : Bool) (r2 : List (List Sc × Int × Nat)) (r3 : Nat) (r4 : Bool) (r5 : List (List Sc × Bool × Nat)) (r6 : Nat) (r7 : List Next) (r8 : List Int) (r9 : List (List Sc × Bool × Nat)) (r10 : Nat) =>
  k0 r1 r2 r3 r7 r8 r4 r9 r10 r5 r6)
noncomputable def effect_rows_inner_D (F : Fam_effect_rows_inner) (hF : Fam_effect_rows_inner_ok F) (N : Nat) : FD E0 := { f := 25, fn := Try.f25, q := effect_rows_inner_q, gm := [⟨effect_rows_acts_C F, hF.effect_rows_acts⟩], nd := true }
theorem effect_rows_inner_okF (F : Fam_effect_rows_inner) (hF : Fam_effect_rows_inner_ok F) (N : Nat) : Ct.okm E0 ⟨(effect_rows_inner_D F hF N).f, (effect_rows_inner_D F hF N).q, fun R k a b c d e g h i j l => effect_rows_inner_d F N a b c d e g h i j l (fun m => oK ⟨.p 6 0 0, [z3, .rw .next .ro, .rw .int .ro, z2], [.rw .next .app, .rw .int .app, .bx [.m 7, .m 8, .b], .mx false [.int .i64] false .bool, .mx false [.int .i64] false .bool]⟩ k b c d e m h i)⟩ := FD.ctm e0 (effect_rows_inner_D F hF N) N (fun R k a b c d e g h i j l => effect_rows_inner_d F N a b c d e g h i j l (fun m => oK ⟨.p 6 0 0, [z3, .rw .next .ro, .rw .int .ro, z2], [.rw .next .app, .rw .int .app, .bx [.m 7, .m 8, .b], .mx false [.int .i64] false .bool, .mx false [.int .i64] false .bool]⟩ k b c d e m h i))

def z5 : ShO S := .bx [.i .i64, .st, .st, .t .expr, .i .i64, .t .act, .t .act, .i .i64]
noncomputable def effect_rows_acts_l3_b (F : Fam_effect_rows_inner) {R : Type} (N : Nat) (v_81 : List Act) (v_82 v_83 v_84 : Int) (r_86 r_87 r_88 : List (List UInt8)) (r_89 : List Node) (o_91 : List Next) (o_92 : List Int) (a_102 : Int) (a_103 a_104 : List UInt8) (a_105 : List Expr) (a_106 : Int) (a_107 a_108 : List Act) (a_109 : Int) (kp0 : Bool → (List (List Sc × Int × Nat)) → Nat → Bool → (List (List Sc × Bool × Nat)) → Nat → (List Next) → (List Int) → (List (List Sc × Bool × Nat)) → Nat → Option R) (rec : Int → Bool → (List (List Sc × Int × Nat)) → Nat → Bool → (List (List Sc × Bool × Nat)) → Nat → (List Next) → (List Int) → (List (List Sc × Bool × Nat)) → Nat → Option R) (v_85 : Int) (r_90 : Bool) (o_93 : List (List Sc × Int × Nat)) (o_94 : Nat) (b_95 : Bool) (o_96 : List (List Sc × Bool × Nat)) (o_97 : Nat) (o_98 : List Next) (o_99 : List Int) (o_100 : List (List Sc × Bool × Nat)) (o_101 : Nat) : Option R :=
  if (decide (v_85 < v_84)) = true then
    (F.effect_rows_acts _ a_107 r_86 r_87 r_88 r_89 r_90 o_98 o_99 o_93 o_94 b_95 o_100 o_101 o_96 o_97 (fun (r110 : Bool) (r111 : List (List Sc × Int × Nat)) (r112 : Nat) (r113 : Bool) (r114 : List (List Sc × Bool × Nat)) (r115 : Nat) (r116 : List Next) (r117 : List Int) (r118 : List (List Sc × Bool × Nat)) (r119 : Nat) =>
  rec (IntKind.wrap .i64 (v_85 + 1)) r110 r111 r112 r113 r114 r115 r116 r117 r118 r119))
  else
    (kp0 r_90 o_93 o_94 b_95 o_96 o_97 o_98 o_99 o_100 o_101)
noncomputable def effect_rows_acts_l3 (F : Fam_effect_rows_inner) {R : Type} (N : Nat) (v_81 : List Act) (v_82 v_83 v_84 : Int) (r_86 r_87 r_88 : List (List UInt8)) (r_89 : List Node) (o_91 : List Next) (o_92 : List Int) (a_102 : Int) (a_103 a_104 : List UInt8) (a_105 : List Expr) (a_106 : Int) (a_107 a_108 : List Act) (a_109 : Int) (kp0 : Bool → (List (List Sc × Int × Nat)) → Nat → Bool → (List (List Sc × Bool × Nat)) → Nat → (List Next) → (List Int) → (List (List Sc × Bool × Nat)) → Nat → Option R) : Nat → Int → Bool → (List (List Sc × Int × Nat)) → Nat → Bool → (List (List Sc × Bool × Nat)) → Nat → (List Next) → (List Int) → (List (List Sc × Bool × Nat)) → Nat → Option R
  | 0 => fun _ _ _ _ _ _ _ _ _ _ _ => none
  | n + 1 => fun v_85 r_90 o_93 o_94 b_95 o_96 o_97 o_98 o_99 o_100 o_101 => effect_rows_acts_l3_b F N v_81 v_82 v_83 v_84 r_86 r_87 r_88 r_89 o_91 o_92 a_102 a_103 a_104 a_105 a_106 a_107 a_108 a_109 kp0 (effect_rows_acts_l3 F N v_81 v_82 v_83 v_84 r_86 r_87 r_88 r_89 o_91 o_92 a_102 a_103 a_104 a_105 a_106 a_107 a_108 a_109 kp0 n) v_85 r_90 o_93 o_94 b_95 o_96 o_97 o_98 o_99 o_100 o_101
noncomputable def effect_rows_acts_c6 (F : Fam_effect_rows_inner) {R : Type} (N : Nat) (v_27 : List Act) (v_28 v_29 : Int) (r_30 r_31 r_32 : List (List UInt8)) (r_33 : List Node) (r_34 : Bool) (o_35 : List Next) (o_36 : List Int) (o_37 : List (List Sc × Int × Nat)) (o_38 : Nat) (b_39 : Bool) (o_40 : List (List Sc × Bool × Nat)) (o_41 : Nat) (o_42 : List Next) (o_43 : List Int) (o_44 : List (List Sc × Bool × Nat)) (o_45 : Nat) (a_46 : Int) (a_47 a_48 : List UInt8) (a_49 : List Expr) (a_50 : Int) (a_51 a_52 : List Act) (a_53 : Int) (kp0 : Bool → (List (List Sc × Int × Nat)) → Nat → Bool → (List (List Sc × Bool × Nat)) → Nat → (List Next) → (List Int) → (List (List Sc × Bool × Nat)) → Nat → Option R) : Option R :=
  if (a_46 == 2) = true then
    (effect_rows_mark N (-1) a_48 r_30 r_31 r_32 r_33 r_34 o_42 o_43 o_37 o_38 b_39 o_44 o_45 o_40 o_41 (fun (r54 : Bool) (r55 : List (List Sc × Int × Nat)) (r56 : Nat) (r57 : Bool) (r58 : List Next) (r59 : List Int) (r60 : List (List Sc × Bool × Nat)) (r61 : Nat) =>
    kp0 r54 r55 r56 r57 o_40 o_41 r58 r59 r60 r61))
  else
    (if (a_46 == 3) = true then
      (slices_Index_string N r_31 a_47 (fun (r62 : Int) =>
      effect_rows_mark N r62 a_48 r_30 r_31 r_32 r_33 r_34 o_42 o_43 o_37 o_38 b_39 o_44 o_45 o_40 o_41 (fun (r63 : Bool) (r64 : List (List Sc × Int × Nat)) (r65 : Nat) (r66 : Bool) (r67 : List Next) (r68 : List Int) (r69 : List (List Sc × Bool × Nat)) (r70 : Nat) =>
      kp0 r63 r64 r65 r66 o_40 o_41 r67 r68 r69 r70)))
    else
      (if (a_46 == 6) = true then
        (F.effect_rows_choice _ a_46 a_47 a_48 a_49 a_50 a_51 a_52 a_53 r_30 r_31 r_32 r_33 r_34 o_42 o_43 o_37 o_38 b_39 o_44 o_45 o_40 o_41 (fun (r71 : Bool) (r72 : List (List Sc × Int × Nat)) (r73 : Nat) (r74 : Bool) (r75 : List (List Sc × Bool × Nat)) (r76 : Nat) (r77 : List Next) (r78 : List Int) (r79 : List (List Sc × Bool × Nat)) (r80 : Nat) =>
        kp0 r71 r72 r73 r74 r75 r76 r77 r78 r79 r80))
      else
        (if (a_46 == 7) = true then
          (effect_rows_acts_l3 F N v_27 v_28 v_29 (if (16 < a_50) then 16 else a_50) r_30 r_31 r_32 r_33 o_35 o_36 a_46 a_47 a_48 a_49 a_50 a_51 a_52 a_53 (fun (y120 : Bool) (y121 : List (List Sc × Int × Nat)) (y122 : Nat) (y123 : Bool) (y124 : List (List Sc × Bool × Nat)) (y125 : Nat) (y126 : List Next) (y127 : List Int) (y128 : List (List Sc × Bool × Nat)) (y129 : Nat) =>
          kp0 y120 y121 y122 y123 y124 y125 y126 y127 y128 y129) N 0 r_34 o_37 o_38 b_39 o_40 o_41 o_42 o_43 o_44 o_45)
        else
          (kp0 r_34 o_37 o_38 b_39 o_40 o_41 o_42 o_43 o_44 o_45))))
noncomputable def effect_rows_acts_l0_b (F : Fam_effect_rows_inner) {R : Type} (N : Nat) (v_1 : List Act) (v_2 : Int) (r_4 r_5 r_6 : List (List UInt8)) (r_7 : List Node) (o_9 : List Next) (o_10 : List Int) (kp0 kp1 : Bool → (List (List Sc × Int × Nat)) → Nat → Bool → (List (List Sc × Bool × Nat)) → Nat → (List Next) → (List Int) → (List (List Sc × Bool × Nat)) → Nat → Option R) (rec : Int → Bool → (List (List Sc × Int × Nat)) → Nat → Bool → (List (List Sc × Bool × Nat)) → Nat → (List Next) → (List Int) → (List (List Sc × Bool × Nat)) → Nat → Option R) (v_3 : Int) (r_8 : Bool) (o_11 : List (List Sc × Int × Nat)) (o_12 : Nat) (b_13 : Bool) (o_14 : List (List Sc × Bool × Nat)) (o_15 : Nat) (o_16 : List Next) (o_17 : List Int) (o_18 : List (List Sc × Bool × Nat)) (o_19 : Nat) : Option R :=
  if (decide (v_3 < v_2)) = true then
    ((at? v_1 v_3).bind fun e20 =>
  if r_8 = true then
    (kp1 r_8 o_11 o_12 b_13 o_14 o_15 o_16 o_17 o_18 o_19)
  else
    ((ifB (e20.Kind == 4) false (slices_ContainsFunc_Expr N e20.X (fun (r21 : Bool) =>
  some r21)) (some true)).bind fun c22 =>
  if c22 = true then
    (effect_rows_fail N r_4 r_5 r_6 r_7 r_8 o_16 o_17 o_11 o_12 b_13 o_18 o_19 o_14 o_15 (fun (r23 : Bool) (r24 : Bool) (r25 : List (List Sc × Bool × Nat)) (r26 : Nat) =>
    effect_rows_acts_c6 F N v_1 v_2 v_3 r_4 r_5 r_6 r_7 r23 o_9 o_10 o_11 o_12 r24 r25 r26 o_16 o_17 o_18 o_19 e20.Kind e20.Name e20.Event e20.X e20.N e20.Then e20.Else e20.At (fun (y130 : Bool) (y131 : List (List Sc × Int × Nat)) (y132 : Nat) (y133 : Bool) (y134 : List (List Sc × Bool × Nat)) (y135 : Nat) (y136 : List Next) (y137 : List Int) (y138 : List (List Sc × Bool × Nat)) (y139 : Nat) =>
    rec (IntKind.wrap .i64 (v_3 + 1)) y130 y131 y132 y133 y134 y135 y136 y137 y138 y139)))
  else
    (effect_rows_acts_c6 F N v_1 v_2 v_3 r_4 r_5 r_6 r_7 r_8 o_9 o_10 o_11 o_12 b_13 o_14 o_15 o_16 o_17 o_18 o_19 e20.Kind e20.Name e20.Event e20.X e20.N e20.Then e20.Else e20.At (fun (y140 : Bool) (y141 : List (List Sc × Int × Nat)) (y142 : Nat) (y143 : Bool) (y144 : List (List Sc × Bool × Nat)) (y145 : Nat) (y146 : List Next) (y147 : List Int) (y148 : List (List Sc × Bool × Nat)) (y149 : Nat) =>
    rec (IntKind.wrap .i64 (v_3 + 1)) y140 y141 y142 y143 y144 y145 y146 y147 y148 y149))))
  else
    (kp0 r_8 o_11 o_12 b_13 o_14 o_15 o_16 o_17 o_18 o_19)
noncomputable def effect_rows_acts_l0 (F : Fam_effect_rows_inner) {R : Type} (N : Nat) (v_1 : List Act) (v_2 : Int) (r_4 r_5 r_6 : List (List UInt8)) (r_7 : List Node) (o_9 : List Next) (o_10 : List Int) (kp0 kp1 : Bool → (List (List Sc × Int × Nat)) → Nat → Bool → (List (List Sc × Bool × Nat)) → Nat → (List Next) → (List Int) → (List (List Sc × Bool × Nat)) → Nat → Option R) : Nat → Int → Bool → (List (List Sc × Int × Nat)) → Nat → Bool → (List (List Sc × Bool × Nat)) → Nat → (List Next) → (List Int) → (List (List Sc × Bool × Nat)) → Nat → Option R
  | 0 => fun _ _ _ _ _ _ _ _ _ _ _ => none
  | n + 1 => fun v_3 r_8 o_11 o_12 b_13 o_14 o_15 o_16 o_17 o_18 o_19 => effect_rows_acts_l0_b F N v_1 v_2 r_4 r_5 r_6 r_7 o_9 o_10 kp0 kp1 (effect_rows_acts_l0 F N v_1 v_2 r_4 r_5 r_6 r_7 o_9 o_10 kp0 kp1 n) v_3 r_8 o_11 o_12 b_13 o_14 o_15 o_16 o_17 o_18 o_19
noncomputable def effect_rows_acts_d (F : Fam_effect_rows_inner) {R : Type} (N : Nat) (l : List Act) (Vars Ports Timers : List (List UInt8)) (Nodes : List Node) (many : Bool) (l_2 : List Next) (long : List Int) (known_L : List (List Sc × Int × Nat)) (known_cl : Nat) (both : Bool) (t_L : List (List Sc × Bool × Nat)) (t_cl : Nat) (f_L : List (List Sc × Bool × Nat)) (f_cl : Nat) (k0 : Bool → (List (List Sc × Int × Nat)) → Nat → Bool → (List (List Sc × Bool × Nat)) → Nat → (List Next) → (List Int) → (List (List Sc × Bool × Nat)) → Nat → Option R) : Option R :=
  effect_rows_acts_l0 F N l ((l.length : Nat) : Int) Vars Ports Timers Nodes l_2 long (fun (y150 : Bool) (y151 : List (List Sc × Int × Nat)) (y152 : Nat) (y153 : Bool) (y154 : List (List Sc × Bool × Nat)) (y155 : Nat) (y156 : List Next) (y157 : List Int) (y158 : List (List Sc × Bool × Nat)) (y159 : Nat) =>
  k0 y150 y151 y152 y153 y154 y155 y156 y157 y158 y159)
    (fun (y160 : Bool) (y161 : List (List Sc × Int × Nat)) (y162 : Nat) (y163 : Bool) (y164 : List (List Sc × Bool × Nat)) (y165 : Nat) (y166 : List Next) (y167 : List Int) (y168 : List (List Sc × Bool × Nat)) (y169 : Nat) =>
  k0 y160 y161 y162 y163 y164 y165 y166 y167 y168 y169) N 0 many known_L known_cl both f_L f_cl l_2 long t_L t_cl
noncomputable def effect_rows_acts_D (F : Fam_effect_rows_inner) (hF : Fam_effect_rows_inner_ok F) (N : Nat) : FD E0 := { f := 47, fn := Try.f47, q := effect_rows_acts_q, loops := [{ cur := 3, live := [0, 1, 7, 8, 9, 10, 65, 66], fix := [(⟨0, [0]⟩, .fresh .next .app), (⟨0, [1]⟩, .fresh .int .app), (⟨1, [0]⟩, .fresh .int .own)], out := fun | .exit 3 => ([0, 1, 8, 9, 10], []) | _ => ([], []), q := ⟨[.p 0 0 0, .p 4 0 0, .p 10 0 0, .t .act, .i .i64, .i .i64, .i .i64, .i .i64], [z4, .rw .next .ro, .rw .int .ro, z2, .bx [.m 9, .m 6, .b], .g, .mx false [.int .i64] false .bool, .rw .next .app, .rw .int .app, .mx false [.int .i64] false .bool, z5]⟩, G := fun R K n a b c d e g h i j l m o p q s t u v w x y z a1 b1 c1 d1 e1 g1 h1 => effect_rows_acts_l3 F N a b c d g h i j m o z a1 b1 c1 d1 e1 g1 h1 (fun i1 => pK ⟨[.p 0 0 0, .p 4 0 0, .t .act, .i .i64, .i .i64], [z4, .rw .next .ro, .rw .int .ro, z2, .bx [.m 9, .m 6, .b], .g, .mx false [.int .i64] false .bool, .rw .next .app, .rw .int .app, .mx false [.int .i64] false .bool]⟩ (K (.exit 3)) a b c g h i j i1 m o) n e l p q s t u v w x y, B := fun R K rec a b c d e g h i j l m o p q s t u v w x y z a1 b1 c1 d1 e1 g1 h1 => effect_rows_acts_l3_b F N a b c d g h i j m o z a1 b1 c1 d1 e1 g1 h1 (fun i1 => pK ⟨[.p 0 0 0, .p 4 0 0, .t .act, .i .i64, .i .i64], [z4, .rw .next .ro, .rw .int .ro, z2, .bx [.m 9, .m 6, .b], .g, .mx false [.int .i64] false .bool, .rw .next .app, .rw .int .app, .mx false [.int .i64] false .bool]⟩ (K (.exit 3)) a b c g h i j i1 m o) (fun e l p q s t u v w x y => rec a b c d e g h i j l m o p q s t u v w x y z a1 b1 c1 d1 e1 g1 h1) e l p q s t u v w x y }, { cur := 0, live := [0, 1, 8, 9, 10], fix := [(⟨0, [0]⟩, .fresh .next .app), (⟨0, [1]⟩, .fresh .int .app), (⟨1, [0]⟩, .fresh .int .own)], out := fun | .exit 0 => ([], []) | .ret => ([], []) | _ => ([], []), q := ⟨[.p 0 0 0, .p 4 0 0, .t .act, .i .i64, .i .i64], [z4, .rw .next .ro, .rw .int .ro, z2, .bx [.m 9, .m 6, .b], .g, .mx false [.int .i64] false .bool, .rw .next .app, .rw .int .app, .mx false [.int .i64] false .bool]⟩, G := fun R K n a b c d e g h i j l m o p q s t u v w => effect_rows_acts_l0 F N a b d e g h j l (fun x => pK ⟨[], [z4, .rw .next .ro, .rw .int .ro, z2, .bx [.m 9, .m 6, .b], .g, .mx false [.int .i64] false .bool, .rw .next .app, .rw .int .app, .mx false [.int .i64] false .bool]⟩ (K (.exit 0)) d e g h x j l) (fun x => pK ⟨[], [z4, .rw .next .ro, .rw .int .ro, z2, .bx [.m 9, .m 6, .b], .g, .mx false [.int .i64] false .bool, .rw .next .app, .rw .int .app, .mx false [.int .i64] false .bool]⟩ (K .ret) d e g h x j l) n c i m o p q s t u v w, B := fun R K rec a b c d e g h i j l m o p q s t u v w => effect_rows_acts_l0_b F N a b d e g h j l (fun x => pK ⟨[], [z4, .rw .next .ro, .rw .int .ro, z2, .bx [.m 9, .m 6, .b], .g, .mx false [.int .i64] false .bool, .rw .next .app, .rw .int .app, .mx false [.int .i64] false .bool]⟩ (K (.exit 0)) d e g h x j l) (fun x => pK ⟨[], [z4, .rw .next .ro, .rw .int .ro, z2, .bx [.m 9, .m 6, .b], .g, .mx false [.int .i64] false .bool, .rw .next .app, .rw .int .app, .mx false [.int .i64] false .bool]⟩ (K .ret) d e g h x j l) (fun c i m o p q s t u v w => rec a b c d e g h i j l m o p q s t u v w) c i m o p q s t u v w }], cuts := [{ key := 6, live := [0, 1, 7, 8, 9, 10], fix := [(⟨0, [0]⟩, .fresh .next .app), (⟨0, [1]⟩, .fresh .int .app), (⟨1, [0]⟩, .fresh .int .own)], out := fun | .normal => ([0, 1, 8, 9, 10], []) | _ => ([], []), q := ⟨[.p 0 0 0, .p 4 0 0, .p 10 0 0, .t .act, .i .i64, .i .i64], [z4, .rw .next .ro, .rw .int .ro, z2, .bx [.m 9, .m 6, .b], .g, .mx false [.int .i64] false .bool, .rw .next .app, .rw .int .app, .mx false [.int .i64] false .bool, z5]⟩, G := fun R K a b c d e g h i j l m o p q s t u v w x y z a1 b1 c1 d1 e1 => effect_rows_acts_c6 F N a b c d e g h i j l m o p q s t u v w x y z a1 b1 c1 d1 e1 (fun g1 => pK ⟨[.p 0 0 0, .p 4 0 0, .t .act, .i .i64, .i .i64], [z4, .rw .next .ro, .rw .int .ro, z2, .bx [.m 9, .m 6, .b], .g, .mx false [.int .i64] false .bool, .rw .next .app, .rw .int .app, .mx false [.int .i64] false .bool]⟩ (K .normal) a b c d e g h g1 j l) }], g := [slices_ContainsFunc_Expr_S N, slices_Index_string_S N], gm := [⟨effect_rows_acts_C F, hF.effect_rows_acts⟩, effect_rows_fail_S N, effect_rows_mark_S N, ⟨effect_rows_choice_C F, hF.effect_rows_choice⟩], nd := true, dr := [(10, [0, 1, 2, 3, 4, 5, 6, 7, 8, 9, 10, 11, 12, 13])] }
theorem effect_rows_acts_okF (F : Fam_effect_rows_inner) (hF : Fam_effect_rows_inner_ok F) (N : Nat) : Ct.okm E0 ⟨(effect_rows_acts_D F hF N).f, (effect_rows_acts_D F hF N).q, fun R k a b c d e g h i j l m o p q s => effect_rows_acts_d F N a b c d e g h i j l m o p q s (fun t => oK ⟨.tp [], [z4, .rw .next .ro, .rw .int .ro, z2, .bx [.m 9, .m 6, .b], .g, .mx false [.int .i64] false .bool], [.rw .next .app, .rw .int .app, .mx false [.int .i64] false .bool]⟩ k b c d e t h i)⟩ := FD.ctm e0 (effect_rows_acts_D F hF N) N (fun R k a b c d e g h i j l m o p q s => effect_rows_acts_d F N a b c d e g h i j l m o p q s (fun t => oK ⟨.tp [], [z4, .rw .next .ro, .rw .int .ro, z2, .bx [.m 9, .m 6, .b], .g, .mx false [.int .i64] false .bool], [.rw .next .app, .rw .int .app, .mx false [.int .i64] false .bool]⟩ k b c d e t h i))

noncomputable def effect_rows_choice_d (F : Fam_effect_rows_inner) {R : Type} (N : Nat) (Kind : Int) (Name Event : List UInt8) (X : List Expr) (N_ : Int) (Then Else : List Act) (At : Int) (Vars Ports Timers : List (List UInt8)) (Nodes : List Node) (many : Bool) (l : List Next) (long : List Int) (known_L : List (List Sc × Int × Nat)) (known_cl : Nat) (both : Bool) (t_L : List (List Sc × Bool × Nat)) (t_cl : Nat) (f_L : List (List Sc × Bool × Nat)) (f_cl : Nat) (k0 : Bool → (List (List Sc × Int × Nat)) → Nat → Bool → (List (List Sc × Bool × Nat)) → Nat → (List Next) → (List Int) → (List (List Sc × Bool × Nat)) → Nat → Option R) : Option R :=
  F.effect_rows_inner _ Then Vars Ports Timers Nodes many l long known_L known_cl (fun (r1 : Bool) (r2 : List (List Sc × Int × Nat)) (r3 : Nat) (r4 : List Next) (r5 : List Int) (r6 : Bool) (r7 : List (List Sc × Bool × Nat)) (r8 : Nat) (r9 : List (List Sc × Bool × Nat)) (r10 : Nat) =>
  F.effect_rows_inner _ Else Vars Ports Timers Nodes r1 r4 r5 r2 r3 (fun (r11 : Bool) (r12 : List (List Sc × Int × Nat)) (r13 : Nat) (r14 : List Next) (r15 : List Int) (r16 : Bool) (r17 : List (List Sc × Bool × Nat)) (r18 : Nat) (r19 : List (List Sc × Bool × Nat)) (r20 : Nat) =>
  effect_rows_then N Vars Ports Timers Nodes r11 r14 r15 r12 r13 ([] : List (List Sc × Bool × Nat)) 0 t_L t_cl r7 r8 (fun (r21 : Bool) (r22 : List (List Sc × Int × Nat)) (r23 : Nat) (r24 : List (List Sc × Bool × Nat)) (r25 : Nat) (r26 : List Next) (r27 : List Int) =>
  effect_rows_then N Vars Ports Timers Nodes r21 r26 r27 r22 r23 r24 r25 t_L t_cl r17 r18 (fun (r28 : Bool) (r29 : List (List Sc × Int × Nat)) (r30 : Nat) (r31 : List (List Sc × Bool × Nat)) (r32 : Nat) (r33 : List Next) (r34 : List Int) =>
  effect_rows_then N Vars Ports Timers Nodes r28 r33 r34 r29 r30 f_L f_cl t_L t_cl r9 r10 (fun (r35 : Bool) (r36 : List (List Sc × Int × Nat)) (r37 : Nat) (r38 : List (List Sc × Bool × Nat)) (r39 : Nat) (r40 : List Next) (r41 : List Int) =>
  effect_rows_then N Vars Ports Timers Nodes r35 r40 r41 r36 r37 r38 r39 t_L t_cl r19 r20 (fun (r42 : Bool) (r43 : List (List Sc × Int × Nat)) (r44 : Nat) (r45 : List (List Sc × Bool × Nat)) (r46 : Nat) (r47 : List Next) (r48 : List Int) =>
  k0 r42 r43 r44 false r45 r46 r47 r48 r31 r32))))))
noncomputable def effect_rows_choice_D (F : Fam_effect_rows_inner) (hF : Fam_effect_rows_inner_ok F) (N : Nat) : FD E0 := { f := 78, fn := Try.f78, q := effect_rows_choice_q, gm := [⟨effect_rows_inner_C F, hF.effect_rows_inner⟩, effect_rows_then_S N], nd := true, dr := [(1, [0, 1, 2, 4, 5, 6, 3, 7, 8, 9]), (3, [0, 1, 2, 3, 4, 5, 6, 7, 8, 9, 10]), (4, [0, 1, 2, 3, 4, 5, 6, 7, 8, 9, 10]), (5, [0, 1, 2, 3, 4, 5, 6, 7, 8, 9, 10, 11, 12, 13]), (6, [0, 1, 2, 3, 4, 5, 6, 7, 8, 9, 10, 11, 12, 13])] }
theorem effect_rows_choice_okF (F : Fam_effect_rows_inner) (hF : Fam_effect_rows_inner_ok F) (N : Nat) : Ct.okm E0 ⟨(effect_rows_choice_D F hF N).f, (effect_rows_choice_D F hF N).q, fun R k a b c d e g h i j l m o p q s t u v w x y z => effect_rows_choice_d F N a b c d e g h i j l m o p q s t u v w x y z (fun a1 b1 c1 d1 => oK ⟨.tp [], [z4, .rw .next .ro, .rw .int .ro, z2, .bx [.m 9, .m 6, .b], .mx false [.int .i64] false .bool, .mx false [.int .i64] false .bool], [.rw .next .app, .rw .int .app, .mx false [.int .i64] false .bool]⟩ k j l m o a1 q s b1 c1 d1 w x)⟩ := FD.ctm e0 (effect_rows_choice_D F hF N) N (fun R k a b c d e g h i j l m o p q s t u v w x y z => effect_rows_choice_d F N a b c d e g h i j l m o p q s t u v w x y z (fun a1 b1 c1 d1 => oK ⟨.tp [], [z4, .rw .next .ro, .rw .int .ro, z2, .bx [.m 9, .m 6, .b], .mx false [.int .i64] false .bool, .mx false [.int .i64] false .bool], [.rw .next .app, .rw .int .app, .mx false [.int .i64] false .bool]⟩ k j l m o a1 q s b1 c1 d1 w x))

noncomputable def Fam_effect_rows_inner_next (F : Fam_effect_rows_inner) (N : Nat) : Fam_effect_rows_inner where
  effect_rows_inner := fun R l Vars Ports Timers Nodes many l_2 long known_L known_cl k0 => effect_rows_inner_d F N l Vars Ports Timers Nodes many l_2 long known_L known_cl k0
  effect_rows_acts := fun R l Vars Ports Timers Nodes many l_2 long known_L known_cl both t_L t_cl f_L f_cl k0 => effect_rows_acts_d F N l Vars Ports Timers Nodes many l_2 long known_L known_cl both t_L t_cl f_L f_cl k0
  effect_rows_choice := fun R Kind Name Event X N_ Then Else At Vars Ports Timers Nodes many l long known_L known_cl both t_L t_cl f_L f_cl k0 => effect_rows_choice_d F N Kind Name Event X N_ Then Else At Vars Ports Timers Nodes many l long known_L known_cl both t_L t_cl f_L f_cl k0
noncomputable def Fam_effect_rows_inner_at (N : Nat) : Nat → Fam_effect_rows_inner
  | 0 => { effect_rows_inner := fun _ _ _ _ _ _ _ _ _ _ _ _ => none, effect_rows_acts := fun _ _ _ _ _ _ _ _ _ _ _ _ _ _ _ _ _ => none, effect_rows_choice := fun _ _ _ _ _ _ _ _ _ _ _ _ _ _ _ _ _ _ _ _ _ _ _ _ => none }
  | d + 1 => Fam_effect_rows_inner_next (Fam_effect_rows_inner_at N d) N
theorem Fam_effect_rows_inner_at_ok (N : Nat) : ∀ d, Fam_effect_rows_inner_ok (Fam_effect_rows_inner_at N d)
  | 0 => { effect_rows_inner := Ct.okm_none, effect_rows_acts := Ct.okm_none, effect_rows_choice := Ct.okm_none }
  | d + 1 => { effect_rows_inner := effect_rows_inner_okF _ (Fam_effect_rows_inner_at_ok N d) N, effect_rows_acts := effect_rows_acts_okF _ (Fam_effect_rows_inner_at_ok N d) N, effect_rows_choice := effect_rows_choice_okF _ (Fam_effect_rows_inner_at_ok N d) N }
noncomputable def effect_rows_inner {R : Type} (N : Nat) (l : List Act) (Vars Ports Timers : List (List UInt8)) (Nodes : List Node) (many : Bool) (l_2 : List Next) (long : List Int) (known_L : List (List Sc × Int × Nat)) (known_cl : Nat) (k0 : Bool → (List (List Sc × Int × Nat)) → Nat → (List Next) → (List Int) → Bool → (List (List Sc × Bool × Nat)) → Nat → (List (List Sc × Bool × Nat)) → Nat → Option R) : Option R := (Fam_effect_rows_inner_at N N).effect_rows_inner R l Vars Ports Timers Nodes many l_2 long known_L known_cl k0
theorem effect_rows_inner_at {R : Type} (N d : Nat) (l : List Act) (Vars Ports Timers : List (List UInt8)) (Nodes : List Node) (many : Bool) (l_2 : List Next) (long : List Int) (known_L : List (List Sc × Int × Nat)) (known_cl : Nat) (k0 : Bool → (List (List Sc × Int × Nat)) → Nat → (List Next) → (List Int) → Bool → (List (List Sc × Bool × Nat)) → Nat → (List (List Sc × Bool × Nat)) → Nat → Option R) : (Fam_effect_rows_inner_at N (d + 1)).effect_rows_inner R l Vars Ports Timers Nodes many l_2 long known_L known_cl k0 = effect_rows_inner_d (Fam_effect_rows_inner_at N d) N l Vars Ports Timers Nodes many l_2 long known_L known_cl k0 := rfl
noncomputable def effect_rows_inner_S (N : Nat) : OCM E0 := ⟨effect_rows_inner_C (Fam_effect_rows_inner_at N N), (Fam_effect_rows_inner_at_ok N N).effect_rows_inner⟩
noncomputable def effect_rows_acts {R : Type} (N : Nat) (l : List Act) (Vars Ports Timers : List (List UInt8)) (Nodes : List Node) (many : Bool) (l_2 : List Next) (long : List Int) (known_L : List (List Sc × Int × Nat)) (known_cl : Nat) (both : Bool) (t_L : List (List Sc × Bool × Nat)) (t_cl : Nat) (f_L : List (List Sc × Bool × Nat)) (f_cl : Nat) (k0 : Bool → (List (List Sc × Int × Nat)) → Nat → Bool → (List (List Sc × Bool × Nat)) → Nat → (List Next) → (List Int) → (List (List Sc × Bool × Nat)) → Nat → Option R) : Option R := (Fam_effect_rows_inner_at N N).effect_rows_acts R l Vars Ports Timers Nodes many l_2 long known_L known_cl both t_L t_cl f_L f_cl k0
theorem effect_rows_acts_at {R : Type} (N d : Nat) (l : List Act) (Vars Ports Timers : List (List UInt8)) (Nodes : List Node) (many : Bool) (l_2 : List Next) (long : List Int) (known_L : List (List Sc × Int × Nat)) (known_cl : Nat) (both : Bool) (t_L : List (List Sc × Bool × Nat)) (t_cl : Nat) (f_L : List (List Sc × Bool × Nat)) (f_cl : Nat) (k0 : Bool → (List (List Sc × Int × Nat)) → Nat → Bool → (List (List Sc × Bool × Nat)) → Nat → (List Next) → (List Int) → (List (List Sc × Bool × Nat)) → Nat → Option R) : (Fam_effect_rows_inner_at N (d + 1)).effect_rows_acts R l Vars Ports Timers Nodes many l_2 long known_L known_cl both t_L t_cl f_L f_cl k0 = effect_rows_acts_d (Fam_effect_rows_inner_at N d) N l Vars Ports Timers Nodes many l_2 long known_L known_cl both t_L t_cl f_L f_cl k0 := rfl
noncomputable def effect_rows_acts_S (N : Nat) : OCM E0 := ⟨effect_rows_acts_C (Fam_effect_rows_inner_at N N), (Fam_effect_rows_inner_at_ok N N).effect_rows_acts⟩
noncomputable def effect_rows_choice {R : Type} (N : Nat) (Kind : Int) (Name Event : List UInt8) (X : List Expr) (N_ : Int) (Then Else : List Act) (At : Int) (Vars Ports Timers : List (List UInt8)) (Nodes : List Node) (many : Bool) (l : List Next) (long : List Int) (known_L : List (List Sc × Int × Nat)) (known_cl : Nat) (both : Bool) (t_L : List (List Sc × Bool × Nat)) (t_cl : Nat) (f_L : List (List Sc × Bool × Nat)) (f_cl : Nat) (k0 : Bool → (List (List Sc × Int × Nat)) → Nat → Bool → (List (List Sc × Bool × Nat)) → Nat → (List Next) → (List Int) → (List (List Sc × Bool × Nat)) → Nat → Option R) : Option R := (Fam_effect_rows_inner_at N N).effect_rows_choice R Kind Name Event X N_ Then Else At Vars Ports Timers Nodes many l long known_L known_cl both t_L t_cl f_L f_cl k0
theorem effect_rows_choice_at {R : Type} (N d : Nat) (Kind : Int) (Name Event : List UInt8) (X : List Expr) (N_ : Int) (Then Else : List Act) (At : Int) (Vars Ports Timers : List (List UInt8)) (Nodes : List Node) (many : Bool) (l : List Next) (long : List Int) (known_L : List (List Sc × Int × Nat)) (known_cl : Nat) (both : Bool) (t_L : List (List Sc × Bool × Nat)) (t_cl : Nat) (f_L : List (List Sc × Bool × Nat)) (f_cl : Nat) (k0 : Bool → (List (List Sc × Int × Nat)) → Nat → Bool → (List (List Sc × Bool × Nat)) → Nat → (List Next) → (List Int) → (List (List Sc × Bool × Nat)) → Nat → Option R) : (Fam_effect_rows_inner_at N (d + 1)).effect_rows_choice R Kind Name Event X N_ Then Else At Vars Ports Timers Nodes many l long known_L known_cl both t_L t_cl f_L f_cl k0 = effect_rows_choice_d (Fam_effect_rows_inner_at N d) N Kind Name Event X N_ Then Else At Vars Ports Timers Nodes many l long known_L known_cl both t_L t_cl f_L f_cl k0 := rfl
noncomputable def effect_rows_choice_S (N : Nat) : OCM E0 := ⟨effect_rows_choice_C (Fam_effect_rows_inner_at N N), (Fam_effect_rows_inner_at_ok N N).effect_rows_choice⟩

noncomputable def effect_rows_cut {R : Type} (N : Nat) (Vars Ports Timers : List (List UInt8)) (Nodes : List Node) (many : Bool) (l : List Next) (long : List Int) (known_L : List (List Sc × Int × Nat)) (known_cl : Nat) (both : Bool) (t_L : List (List Sc × Bool × Nat)) (t_cl : Nat) (f_L : List (List Sc × Bool × Nat)) (f_cl : Nat) : Option R := none
noncomputable def effect_rows_cut_S (N : Nat) : OCM E0 := ⟨⟨28, ⟨[.p 0 0 0, .p 4 0 0], [z1, .rw .next .app, .rw .int .app, z2, .bx [.m 5, .m 6, .b], .mx false [.int .i64] false .bool, .mx false [.int .i64] false .bool]⟩, fun R k Vars Ports Timers Nodes many l long known_L known_cl both t_L t_cl f_L f_cl => none⟩, Ct.okm_none⟩

noncomputable def srt (xs : List (List Mark)) : List (List Mark) := xs.mergeSort fun x y => !(Go.Proofs.ltOf cM) y x
noncomputable def slices_SortFunc_Mark {R : Type} (N : Nat) (x : List (List Mark)) (k0 : List (List Mark) → Option R) : Option R := if x.length < 4611686018427387904 ∧ (x.all fun m => decide (m.length < big)) = true then k0 (srt x) else none
theorem slices_SortFunc_Mark_ok : Ct.ok E0 ⟨30, ⟨[.sw 0, .fn 31 []], [.rw .marks .own]⟩, fun R k x => slices_SortFunc_Mark 0 x (oK ⟨.tp [], [.rw .marks .own], []⟩ k)⟩ := by
  intro R x k r h
  obtain ⟨_, xs, _⟩ := x
  replace h : (if xs.length < 4611686018427387904 ∧ (xs.all fun m => decide (m.length < big)) = true then k ⟨.tup [], some [.row .marks (srt xs) .own], []⟩ else none) = some r := h
  split at h
  · rename_i hc
    exact ⟨_, h, c30 xs (fun m hm => by have := List.all_eq_true.1 hc.2 m hm; simpa using this) hc.1⟩
  · cases h
noncomputable def slices_SortFunc_Mark_S (N : Nat) : OC E0 := ⟨⟨30, ⟨[.sw 0, .fn 31 []], [.rw .marks .own]⟩, fun R k x => slices_SortFunc_Mark N x (oK ⟨.tp [], [.rw .marks .own], []⟩ k)⟩, slices_SortFunc_Mark_ok⟩

def y2 : Sh S := .ag [.i .i64, .i .i64, .i .i64, .st]
def z6 : ShO S := .bx [.t .str, .t .str, .t .str, .t .node, .ns]
def z7 : ShO S := .bx [.t .str, .t .str, .t .str, .t .node, .sw 1]
noncomputable def code_writer_put {R : Type} (N : Nat) (Op A N_ : Int) (S : List UInt8) (Vars Ports Timers : List (List UInt8)) (Nodes : List Node) (k0 : Int → (List Ins) → Option R) : Option R :=
  if [(⟨Op, A, N_, S⟩ : Ins)].length ≤ maxRow then (k0 (IntKind.wrap .i64 ((([(⟨Op, A, N_, S⟩ : Ins)].length : Nat) : Int) - 1)) [(⟨Op, A, N_, S⟩ : Ins)]) else none
noncomputable def code_writer_put_D (N : Nat) : FD E0 := { f := 99, fn := Try.f99, q := ⟨[.p 0 0 0, y2], [z6]⟩, mode := fun | 11 => .own | 12 => .own | _ => .app }
noncomputable def code_writer_put_S (N : Nat) : OC E0 := ⟨_, FD.ct e0 (code_writer_put_D N) N (fun R k a b c d e g h i => code_writer_put N a b c d e g h i (fun j => oK ⟨.i .i64, [z7], [.rw .ins .own]⟩ k j e g h i))⟩

def z8 : ShO S := .bx [.t .str, .t .str, .t .str, .t .node, .sw 2]
noncomputable def code_writer_put_2 {R : Type} (N : Nat) (Op A N_ : Int) (S : List UInt8) (Vars Ports Timers : List (List UInt8)) (Nodes : List Node) (c : List Ins) (k0 : Int → (List Ins) → Option R) : Option R :=
  if c.length + [(⟨Op, A, N_, S⟩ : Ins)].length ≤ maxRow then (k0 (IntKind.wrap .i64 ((((c ++ [(⟨Op, A, N_, S⟩ : Ins)]).length : Nat) : Int) - 1)) (c ++ [(⟨Op, A, N_, S⟩ : Ins)])) else none
noncomputable def code_writer_put_2_D (N : Nat) : FD E0 := { f := 99, fn := Try.f99, q := ⟨[.p 0 0 0, y2], [z7, .rw .ins .own]⟩, mode := fun | 11 => .own | 12 => .own | _ => .app }
noncomputable def code_writer_put_2_S (N : Nat) : OC E0 := ⟨_, FD.ct e0 (code_writer_put_2_D N) N (fun R k a b c d e g h i j => code_writer_put_2 N a b c d e g h i j (fun l => oK ⟨.i .i64, [z8, .g], [.rw .ins .own]⟩ k l e g h i))⟩

noncomputable def code_writer_push {R : Type} (N : Nat) (n_ : Int) (Vars Ports Timers : List (List UInt8)) (Nodes : List Node) (c : List Ins) (k0 : (List Ins) → Option R) : Option R :=
  code_writer_put_2 N 1 0 n_ [] Vars Ports Timers Nodes c (fun (r1 : Int) (r2 : List Ins) =>
  k0 r2)
noncomputable def code_writer_push_D (N : Nat) : FD E0 := { f := 98, fn := Try.f98, q := ⟨[.p 0 0 0, .i .i64], [z7, .rw .ins .own]⟩, g := [code_writer_put_2_S N] }
noncomputable def code_writer_push_S (N : Nat) : OC E0 := ⟨_, FD.ct e0 (code_writer_push_D N) N (fun R k a b c d e g => code_writer_push N a b c d e g (oK ⟨.tp [], [z8, .g], [.rw .ins .own]⟩ k b c d e))⟩

def y3 : Sh S := .ag [.i .i64, .i .i64, .i .i64, .i .i64, .i .i64, .i .i64, .st]
noncomputable def flat_Find_1 {R : Type} (N : Nat) (Kind Parent Last Init Entry Exit : Int) (Name a1_0 : List UInt8) (k0 : Bool → Option R) : Option R :=
  k0 (Name == a1_0)
noncomputable def flat_Find_1_D (N : Nat) : FD E0 := { f := 119, fn := Try.f119, q := ⟨[y3, .p 0 0 0], [.bx [.st]]⟩ }
noncomputable def flat_Find_1_S (N : Nat) : OC E0 := ⟨_, FD.ctq e0 (flat_Find_1_D N) N (fun R k a b c d e g h i => flat_Find_1 N a b c d e g h i (oQ ⟨.b, [], []⟩ k))⟩

noncomputable def slices_IndexFunc_Node_l0_b {R : Type} (N : Nat) (s_1 : List Node) (v_2 : Int) (f_4 : List UInt8) (kp0 : Option R) (kp1 : Int → Option R) (rec : Int → Option R) (v_3 : Int) : Option R :=
  if (decide (v_3 < v_2)) = true then
    ((at? s_1 v_3).bind fun e5 =>
  if (e5.Name == f_4) = true then
    (kp1 v_3)
  else
    (rec (IntKind.wrap .i64 (v_3 + 1))))
  else
    (kp0 )
noncomputable def slices_IndexFunc_Node_l0 {R : Type} (N : Nat) (s_1 : List Node) (v_2 : Int) (f_4 : List UInt8) (kp0 : Option R) (kp1 : Int → Option R) : Nat → Int → Option R
  | 0 => fun _ => none
  | n + 1 => fun v_3 => slices_IndexFunc_Node_l0_b N s_1 v_2 f_4 kp0 kp1 (slices_IndexFunc_Node_l0 N s_1 v_2 f_4 kp0 kp1 n) v_3
noncomputable def slices_IndexFunc_Node {R : Type} (N : Nat) (s : List Node) (f_c0_0 : List UInt8) (k0 : Int → Option R) : Option R :=
  slices_IndexFunc_Node_l0 N s ((s.length : Nat) : Int) f_c0_0 (k0 (-1))
    (fun (y6 : Int) =>
  k0 y6) N 0
noncomputable def slices_IndexFunc_Node_D (N : Nat) : FD E0 := { f := 118, fn := Try.f118, q := ⟨[.t .node, .fn 119 [.p 0 0 0]], [.bx [.st]]⟩, loops := [{ cur := 0, live := [0, 1, 7, 8], out := fun | .exit 0 => ([], []) | .ret => ([4], []) | _ => ([], []), q := ⟨[.t .node, .fn 119 [.p 0 0 0], .i .i64, .i .i64], [.bx [.st]]⟩, G := fun R K n a b c d => slices_IndexFunc_Node_l0 N a b d (pK ⟨[], [.bx [.st]]⟩ (K (.exit 0)) d) (fun e => pK ⟨[.i .i64], [.bx [.st]]⟩ (K .ret) e d) n c, B := fun R K rec a b c d => slices_IndexFunc_Node_l0_b N a b d (pK ⟨[], [.bx [.st]]⟩ (K (.exit 0)) d) (fun e => pK ⟨[.i .i64], [.bx [.st]]⟩ (K .ret) e d) (fun c => rec a b c d) c }], g := [flat_Find_1_S N] }
noncomputable def slices_IndexFunc_Node_S (N : Nat) : OC E0 := ⟨_, FD.ctq e0 (slices_IndexFunc_Node_D N) N (fun R k a b => slices_IndexFunc_Node N a b (oQ ⟨.i .i64, [], []⟩ k))⟩

noncomputable def flat_Find {R : Type} (N : Nat) (l : List Node) (name : List UInt8) (k0 : Int → Option R) : Option R :=
  if (name == []) = true then
    (k0 (-1))
  else
    (slices_IndexFunc_Node N l name (fun (r1 : Int) =>
  k0 r1))
noncomputable def flat_Find_D (N : Nat) : FD E0 := { f := 100, fn := Try.f100, q := ⟨[.t .node, .st], []⟩, g := [slices_IndexFunc_Node_S N] }
noncomputable def flat_Find_S (N : Nat) : OC E0 := ⟨_, FD.ct e0 (flat_Find_D N) N (fun R k a b => flat_Find N a b (oK ⟨.i .i64, [], []⟩ k))⟩

noncomputable def code_op {R : Type} (N : Nat) (kind : Int) (k0 : Int → Option R) : Option R :=
  if (kind == 5) = true then
    (k0 5)
  else
    (if (kind == 6) = true then
      (k0 6)
    else
      (if (kind == 7) = true then
        (k0 7)
      else
        (if (kind == 8) = true then
          (k0 8)
        else
          (if (kind == 9) = true then
            (k0 9)
          else
            (if (kind == 10) = true then
              (k0 10)
            else
              (if (kind == 11) = true then
                (k0 11)
              else
                (if (kind == 12) = true then
                  (k0 12)
                else
                  (if (kind == 13) = true then
                    (k0 13)
                  else
                    (if (kind == 14) = true then
                      (k0 14)
                    else
                      (if (kind == 15) = true then
                        (k0 15)
                      else
                        (if (kind == 16) = true then
                          (k0 16)
                        else
                          (k0 17))))))))))))
noncomputable def code_op_D (N : Nat) : FD E0 := { f := 102, fn := Try.f102, q := ⟨[.i .i64], []⟩ }
noncomputable def code_op_S (N : Nat) : OC E0 := ⟨_, FD.ct e0 (code_op_D N) N (fun R k a => code_op N a (oK ⟨.i .i64, [], []⟩ k))⟩

noncomputable def code_writer_here {R : Type} (N : Nat) (at_ : Int) (Vars Ports Timers : List (List UInt8)) (Nodes : List Node) (c : List Ins) (k0 : (List Ins) → Option R) : Option R :=
  if (0 : Int) ≤ at_ ∧ at_ < (c.length : Int) then (match c[at_.toNat]? with
    | some e1 => (k0 (c.set at_.toNat (⟨e1.Op, ((c.length : Nat) : Int), e1.N, e1.S⟩ : Ins)))
    | none => none) else none
noncomputable def code_writer_here_D (N : Nat) : FD E0 := { f := 110, fn := Try.f110, q := ⟨[.p 0 0 0, .i .i64], [z7, .rw .ins .own]⟩ }
noncomputable def code_writer_here_S (N : Nat) : OC E0 := ⟨_, FD.ct e0 (code_writer_here_D N) N (fun R k a b c d e g => code_writer_here N a b c d e g (oK ⟨.tp [], [z7, .rw .ins .own], []⟩ k b c d e))⟩

structure Fam_code_writer_expr where
  code_writer_expr : (R : Type) → Int → Int → (List UInt8) → (List Expr) → Int → (List (List UInt8)) → (List (List UInt8)) → (List (List UInt8)) → (List Node) → (List Ins) → ((List Ins) → Option R) → (Option R) → Option R
  code_writer_both : (R : Type) → Int → Int → (List UInt8) → (List Expr) → Int → (List (List UInt8)) → (List (List UInt8)) → (List (List UInt8)) → (List Node) → (List Ins) → ((List Ins) → Option R) → Option R

def code_writer_expr_q : Pat S := ⟨[.p 0 0 0, y0], [z7, .rw .ins .own]⟩
noncomputable def code_writer_expr_C (F : Fam_code_writer_expr) : Ct S := ⟨63, code_writer_expr_q, fun R k a b c d e g h i j l => F.code_writer_expr R a b c d e g h i j l (oK ⟨.tp [], [z8, .g], [.rw .ins .own]⟩ k g h i j) (oK ⟨.tp [], [z7, .rw .ins .own], []⟩ k g h i j l)⟩
def code_writer_both_q : Pat S := ⟨[.p 0 0 0, y0], [z7, .rw .ins .own]⟩
noncomputable def code_writer_both_C (F : Fam_code_writer_expr) : Ct S := ⟨101, code_writer_both_q, fun R k a b c d e g h i j l => F.code_writer_both R a b c d e g h i j l (oK ⟨.tp [], [z8, .g], [.rw .ins .own]⟩ k g h i j)⟩
structure Fam_code_writer_expr_ok (F : Fam_code_writer_expr) : Prop where
  code_writer_expr : (code_writer_expr_C F).ok E0
  code_writer_both : (code_writer_both_C F).ok E0

end Ef
