/- E20_4: a part of the proof of EffectMany: lemmas on the evaluator and on the functions that the law reaches. -/
import Derived.Test.YtfpfmibcnldepaaE20x3
set_option maxRecDepth 100000
set_option linter.unusedVariables false
namespace Ef
open Go TE Go.Proofs
noncomputable def slices_Equal_Mark_l0_b {R : Type} (N : Nat) (s1_1 s2_2 : List Mark) (v_3 : Int) (kp0 : Option R) (kp1 : Bool → Option R) (rec : Int → Option R) (v_4 : Int) : Option R :=
  if (decide (v_4 < v_3)) = true then
    ((at? s1_1 v_4).bind fun e5 =>
  (at? s2_2 v_4).bind fun e6 =>
  if (!((e5.Port == e6.Port) && ((e5.Event == e6.Event) && true))) = true then
    (kp1 false)
  else
    (rec (IntKind.wrap .i64 (v_4 + 1))))
  else
    (kp0 )
noncomputable def slices_Equal_Mark_l0 {R : Type} (N : Nat) (s1_1 s2_2 : List Mark) (v_3 : Int) (kp0 : Option R) (kp1 : Bool → Option R) : Nat → Int → Option R
  | 0 => fun _ => none
  | n + 1 => fun v_4 => slices_Equal_Mark_l0_b N s1_1 s2_2 v_3 kp0 kp1 (slices_Equal_Mark_l0 N s1_1 s2_2 v_3 kp0 kp1 n) v_4
noncomputable def slices_Equal_Mark {R : Type} (N : Nat) (s1 s2 : List Mark) (k0 : Bool → Option R) : Option R :=
  if (((s1.length : Nat) : Int) != ((s2.length : Nat) : Int)) = true then
    (k0 false)
  else
    (slices_Equal_Mark_l0 N s1 s2 ((s1.length : Nat) : Int) (k0 true)
    (fun (y7 : Bool) =>
  k0 y7) N 0)
noncomputable def slices_Equal_Mark_D (N : Nat) : FD E0 := { f := 33, fn := Try.f33, q := ⟨[.t .mark, .t .mark], []⟩, loops := [{ cur := 0, live := [0, 1, 12, 13], out := fun | .exit 0 => ([], []) | .ret => ([4], []) | _ => ([], []), q := ⟨[.t .mark, .t .mark, .i .i64, .i .i64], []⟩, G := fun R K n a b c d => slices_Equal_Mark_l0 N a b c (pK ⟨[], []⟩ (K (.exit 0))) (pK ⟨[.b], []⟩ (K .ret)) n d, B := fun R K rec a b c d => slices_Equal_Mark_l0_b N a b c (pK ⟨[], []⟩ (K (.exit 0))) (pK ⟨[.b], []⟩ (K .ret)) (rec a b c) d }] }
noncomputable def slices_Equal_Mark_S (N : Nat) : OC E0 := ⟨_, FD.ct e0 (slices_Equal_Mark_D N) N (fun R k a b => slices_Equal_Mark N a b (oK ⟨.b, [], []⟩ k))⟩

noncomputable def slices_CompactFunc_Mark_l2_b {R : Type} (N : Nat) (s2_7 s2_8 : Nat) (kp0 : Int → (List (List Mark)) → Option R) (rec : Int → Int → (List (List Mark)) → Option R) (k_6 k2_9 : Int) (s_10 : List (List Mark)) : Option R :=
  if (decide (k2_9 < ((s2_8 : Nat) : Int))) = true then
    (if (0 : Int) ≤ k2_9 ∧ k2_9 < ((s2_8 : Nat) : Int) then (match s_10[s2_7 + k2_9.toNat]? with
    | some e11 => (if (0 : Int) ≤ IntKind.wrap .i64 (k2_9 - 1) ∧ IntKind.wrap .i64 (k2_9 - 1) < ((s2_8 : Nat) : Int) then (match s_10[s2_7 + (IntKind.wrap .i64 (k2_9 - 1)).toNat]? with
        | some e12 => (slices_Equal_Mark N e11 e12 (fun (r13 : Bool) =>
          if (!r13) = true then
    (if (0 : Int) ≤ k2_9 ∧ k2_9 < ((s2_8 : Nat) : Int) then (match s_10[s2_7 + k2_9.toNat]? with
      | some e14 => (if (0 : Int) ≤ k_6 ∧ k_6 < (s_10.length : Int) then (match s_10[k_6.toNat]? with
          | some e15 => (rec (IntKind.wrap .i64 (k_6 + 1)) (IntKind.wrap .i64 (k2_9 + 1)) (s_10.set k_6.toNat e14))
          | none => none) else none)
      | none => none) else none)
  else
    (rec k_6 (IntKind.wrap .i64 (k2_9 + 1)) s_10)))
        | none => none) else none)
    | none => none) else none)
  else
    (kp0 k_6 s_10)
noncomputable def slices_CompactFunc_Mark_l2 {R : Type} (N : Nat) (s2_7 s2_8 : Nat) (kp0 : Int → (List (List Mark)) → Option R) : Nat → Int → Int → (List (List Mark)) → Option R
  | 0 => fun _ _ _ => none
  | n + 1 => fun k_6 k2_9 s_10 => slices_CompactFunc_Mark_l2_b N s2_7 s2_8 kp0 (slices_CompactFunc_Mark_l2 N s2_7 s2_8 kp0 n) k_6 k2_9 s_10
noncomputable def slices_CompactFunc_Mark_l0_b {R : Type} (N : Nat) (s_2 : List (List Mark)) (kp0 : Option R) (rec : Int → Option R) (k_1 : Int) : Option R :=
  if (decide (k_1 < ((s_2.length : Nat) : Int))) = true then
    (if (0 : Int) ≤ k_1 ∧ k_1 < (s_2.length : Int) then (match s_2[k_1.toNat]? with
    | some e3 => (if (0 : Int) ≤ IntKind.wrap .i64 (k_1 - 1) ∧ IntKind.wrap .i64 (k_1 - 1) < (s_2.length : Int) then (match s_2[(IntKind.wrap .i64 (k_1 - 1)).toNat]? with
        | some e4 => (slices_Equal_Mark N e3 e4 (fun (r5 : Bool) =>
          if r5 = true then
    (if (0 : Int) ≤ k_1 ∧ k_1 ≤ ((s_2.length : Nat) : Int) ∧ ((s_2.length : Nat) : Int) ≤ ((s_2.length : Nat) : Int) then (slices_CompactFunc_Mark_l2 N k_1.toNat (((s_2.length : Nat) : Int).toNat - k_1.toNat) (fun (y16 : Int) (y17 : List (List Mark)) =>
    if (0 : Int) ≤ y16 ∧ y16 ≤ ((y17.length : Nat) : Int) ∧ ((y17.length : Nat) : Int) ≤ ((y17.length : Nat) : Int) then (none) else none) N k_1 1 s_2) else none)
  else
    (rec (IntKind.wrap .i64 (k_1 + 1)))))
        | none => none) else none)
    | none => none) else none)
  else
    (kp0 )
noncomputable def slices_CompactFunc_Mark_l0 {R : Type} (N : Nat) (s_2 : List (List Mark)) (kp0 : Option R) : Nat → Int → Option R
  | 0 => fun _ => none
  | n + 1 => fun k_1 => slices_CompactFunc_Mark_l0_b N s_2 kp0 (slices_CompactFunc_Mark_l0 N s_2 kp0 n) k_1
noncomputable def slices_CompactFunc_Mark {R : Type} (N : Nat) (s : List (List Mark)) (k0 : Option R) : Option R :=
  if (decide (((s.length : Nat) : Int) < 2)) = true then
    (k0 )
  else
    (slices_CompactFunc_Mark_l0 N s (k0 ) N 1)
noncomputable def slices_CompactFunc_Mark_D (N : Nat) : FD E0 := { f := 32, fn := Try.f32, q := ⟨[.sw 0, .fn 33 []], [.rw .marks .own]⟩, loops := [{ cur := 2, live := [0, 1, 5, 6, 7], out := fun | .exit 2 => ([0, 5], []) | _ => ([], []), q := ⟨[.sw 0, .fn 33 [], .i .i64, .sl 0, .i .i64], [.rw .marks .own]⟩, G := fun R K n a b c d e => slices_CompactFunc_Mark_l2 N b c (pK ⟨[.sw 0, .i .i64], [.rw .marks .own]⟩ (K (.exit 2))) n a d e, B := fun R K rec a b c d e => slices_CompactFunc_Mark_l2_b N b c (pK ⟨[.sw 0, .i .i64], [.rw .marks .own]⟩ (K (.exit 2))) (fun a d e => rec a b c d e) a d e }, { cur := 0, live := [0, 1, 5], out := fun | .exit 0 => ([0], []) | _ => ([], []), q := ⟨[.sw 0, .fn 33 [], .i .i64], [.rw .marks .own]⟩, G := fun R K n a b => slices_CompactFunc_Mark_l0 N b (pK ⟨[.sw 0], [.rw .marks .own]⟩ (K (.exit 0)) b) n a, B := fun R K rec a b => slices_CompactFunc_Mark_l0_b N b (pK ⟨[.sw 0], [.rw .marks .own]⟩ (K (.exit 0)) b) (fun a => rec a b) a }], g := [slices_Equal_Mark_S N], exit := [(⟨4, []⟩, .tree .marks)] }
noncomputable def slices_CompactFunc_Mark_S (N : Nat) : OC E0 := ⟨_, FD.ct e0 (slices_CompactFunc_Mark_D N) N (fun R k a => slices_CompactFunc_Mark N a (oK ⟨.t .marks, [.rw .marks .ro], []⟩ k a a))⟩

noncomputable def effect_Ways_l0_b {R : Type} (N : Nat) (r_34 r_35 r_36 : List (List UInt8)) (r_37 : List Node) (r_38 : Bool) (o_39 : List Next) (o_40 : List Int) (o_41 : List (List Sc × Int × Nat)) (o_42 : Nat) (b_43 : Bool) (o_44 : List (List Sc × Bool × Nat)) (o_45 : Nat) (o_46 : List (List Sc × Bool × Nat)) (o_47 v_49 : Nat) (kp0 : (List (List Mark)) → Option R) (rec : (List (List Mark)) → (List Nat) → Nat → Option R) (out_48 : List (List Mark)) (v_50 : List Nat) (v_51 : Nat) : Option R :=
  nextC v_49 v_50 v_51 o_44 (kp0 out_48) fun n52 =>
  if o_45 = o_45 then (match findB n52.2.2 o_44 with
  | some en53 => (effect_rows_marks N (scI en53.1) r_34 r_35 r_36 r_37 r_38 o_39 o_40 o_41 o_42 (fun (r54 : List Mark) =>
  if out_48.length + [r54].length ≤ maxRow then (rec (out_48 ++ [r54]) (n52.2.2 :: v_50) o_45) else none))
  | none => none) else none
noncomputable def effect_Ways_l0 {R : Type} (N : Nat) (r_34 r_35 r_36 : List (List UInt8)) (r_37 : List Node) (r_38 : Bool) (o_39 : List Next) (o_40 : List Int) (o_41 : List (List Sc × Int × Nat)) (o_42 : Nat) (b_43 : Bool) (o_44 : List (List Sc × Bool × Nat)) (o_45 : Nat) (o_46 : List (List Sc × Bool × Nat)) (o_47 v_49 : Nat) (kp0 : (List (List Mark)) → Option R) : Nat → (List (List Mark)) → (List Nat) → Nat → Option R
  | 0 => fun _ _ _ => none
  | n + 1 => fun out_48 v_50 v_51 => effect_Ways_l0_b N r_34 r_35 r_36 r_37 r_38 o_39 o_40 o_41 o_42 b_43 o_44 o_45 o_46 o_47 v_49 kp0 (effect_Ways_l0 N r_34 r_35 r_36 r_37 r_38 o_39 o_40 o_41 o_42 b_43 o_44 o_45 o_46 o_47 v_49 kp0 n) out_48 v_50 v_51
noncomputable def effect_Ways_l2_b {R : Type} (N : Nat) (r_56 r_57 r_58 : List (List UInt8)) (r_59 : List Node) (r_60 : Bool) (o_61 : List Next) (o_62 : List Int) (o_63 : List (List Sc × Int × Nat)) (o_64 v_66 : Nat) (o_69 : List (List Sc × Bool × Nat)) (o_70 : Nat) (kp0 : (List (List Mark)) → Option R) (rec : (List (List Mark)) → (List Nat) → Nat → Option R) (out_65 : List (List Mark)) (v_67 : List Nat) (v_68 : Nat) : Option R :=
  nextC v_66 v_67 v_68 o_69 (kp0 out_65) fun n71 =>
  if o_70 = o_70 then (match findB n71.2.2 o_69 with
  | some en72 => (effect_rows_marks N (scI en72.1) r_56 r_57 r_58 r_59 r_60 o_61 o_62 o_63 o_64 (fun (r73 : List Mark) =>
  if r73.length + ([(⟨(-1), [101, 114, 114, 111, 114]⟩ : Mark)]).length ≤ maxRow then (if out_65.length + ([r73 ++ ([(⟨(-1), [101, 114, 114, 111, 114]⟩ : Mark)])]).length ≤ maxRow then (rec (out_65 ++ ([r73 ++ ([(⟨(-1), [101, 114, 114, 111, 114]⟩ : Mark)])])) (n71.2.2 :: v_67) o_70) else none) else none))
  | none => none) else none
noncomputable def effect_Ways_l2 {R : Type} (N : Nat) (r_56 r_57 r_58 : List (List UInt8)) (r_59 : List Node) (r_60 : Bool) (o_61 : List Next) (o_62 : List Int) (o_63 : List (List Sc × Int × Nat)) (o_64 v_66 : Nat) (o_69 : List (List Sc × Bool × Nat)) (o_70 : Nat) (kp0 : (List (List Mark)) → Option R) : Nat → (List (List Mark)) → (List Nat) → Nat → Option R
  | 0 => fun _ _ _ => none
  | n + 1 => fun out_65 v_67 v_68 => effect_Ways_l2_b N r_56 r_57 r_58 r_59 r_60 o_61 o_62 o_63 o_64 v_66 o_69 o_70 kp0 (effect_Ways_l2 N r_56 r_57 r_58 r_59 r_60 o_61 o_62 o_63 o_64 v_66 o_69 o_70 kp0 n) out_65 v_67 v_68
noncomputable def effect_Ways {R : Type} (N : Nat) (l : List Act) (Vars Ports Timers : List (List UInt8)) (Nodes : List Node) (fuel : Int) (k0 : (List (List Mark)) → Int → Option R) : Option R :=
  effect_rows_inner N l Vars Ports Timers Nodes false ([(⟨0, (⟨0, []⟩ : Mark)⟩ : Next)]) [0] ([] : List (List Sc × Int × Nat)) 0 (fun (r1 : Bool) (r2 : List (List Sc × Int × Nat)) (r3 : Nat) (r4 : List Next) (r5 : List Int) (r6 : Bool) (r7 : List (List Sc × Bool × Nat)) (r8 : Nat) (r9 : List (List Sc × Bool × Nat)) (r10 : Nat) =>
  (ifB (!r1) true (code_Block N l Vars Ports Timers Nodes (fun (r11 : List Ins) =>
  code_Most N r11 (fun (r12 : Int) =>
  some (decide (r12 > fuel))))) (some false)).bind fun c13 =>
  if c13 = true then
    (effect_rows_cut N Vars Ports Timers Nodes r1 r4 r5 r2 r3 r6 r7 r8 r9 r10)
  else
    (if r1 = true then
    (k0 ([] : List (List Mark)) 15)
  else
    (effect_Ways_l0 N Vars Ports Timers Nodes r1 r4 r5 r2 r3 r6 r7 r8 r9 r10 r8 (fun (y55 : List (List Mark)) =>
  effect_Ways_l2 N Vars Ports Timers Nodes r1 r4 r5 r2 r3 r10 r9 r10 (fun (y74 : List (List Mark)) =>
  slices_SortFunc_Mark N y74 (fun (r75 : List (List Mark)) =>
  slices_CompactFunc_Mark N r75 (k0 r75 0))) N y55 [] r10) N ([] : List (List Mark)) [] r8)))
noncomputable def effect_Ways_D (N : Nat) : FD E0 := { f := 11, fn := Try.f11, q := ⟨[.t .act, y4, .i .i64], []⟩, loops := [{ cur := 0, live := [8, 9, 10, 47], fix := [(⟨10, []⟩, .row .marks .own)], out := fun | .exit 0 => ([8, 9, 10], []) | _ => ([], []), q := ⟨[.p 0 0 0, .p 4 0 0, .sw 7, .p 8 0 0], [z1, .rw .next .app, .rw .int .app, z2, .bx [.m 5, .m 6, .b], .mx false [.int .i64] false .bool, .mx false [.int .i64] false .bool, .rw .marks .own, .it 5]⟩, G := fun R K n a b c d e g h i j l m o p q s t u v => effect_Ways_l0 N a b c d e g h i j l m o p q t (pK ⟨[.p 0 0 0, .p 4 0 0, .sw 7], [z1, .rw .next .app, .rw .int .app, z2, .bx [.m 5, .m 6, .b], .mx false [.int .i64] false .bool, .mx false [.int .i64] false .bool, .rw .marks .own]⟩ (K (.exit 0)) a b c d e g h i j l m o p q) n s u v, B := fun R K rec a b c d e g h i j l m o p q s t u v => effect_Ways_l0_b N a b c d e g h i j l m o p q t (pK ⟨[.p 0 0 0, .p 4 0 0, .sw 7], [z1, .rw .next .app, .rw .int .app, z2, .bx [.m 5, .m 6, .b], .mx false [.int .i64] false .bool, .mx false [.int .i64] false .bool, .rw .marks .own]⟩ (K (.exit 0)) a b c d e g h i j l m o p q) (fun s u v => rec a b c d e g h i j l m o p q s t u v) s u v }, { cur := 2, live := [8, 10, 62], out := fun | .exit 2 => ([10], []) | _ => ([], []), q := ⟨[.p 0 0 0, .sw 4, .p 5 0 0], [z1, .rw .next .app, .rw .int .app, z2, .rw .marks .own, .it 6, .mx false [.int .i64] false .bool]⟩, G := fun R K n a b c d e g h i j l m o p q s => effect_Ways_l2 N a b c d e g h i j m q s (pK ⟨[.sw 0], [.rw .marks .own]⟩ (K (.exit 2))) n l o p, B := fun R K rec a b c d e g h i j l m o p q s => effect_Ways_l2_b N a b c d e g h i j m q s (pK ⟨[.sw 0], [.rw .marks .own]⟩ (K (.exit 2))) (fun l o p => rec a b c d e g h i j l m o p q s) l o p }], g := [code_Most_S N, code_Block_S N, effect_rows_marks_S N, slices_SortFunc_Mark_S N, slices_CompactFunc_Mark_S N], gm := [effect_rows_inner_S N, effect_rows_cut_S N], nd := true, mode := fun | 57 => .own | 75 => .own | _ => .app, exit := [(⟨6, []⟩, .tree .marks)] }
noncomputable def effect_Ways_S (N : Nat) : OCM E0 := ⟨_, FD.ctm e0 (effect_Ways_D N) N (fun R k a b c d e g => effect_Ways N a b c d e g (oK ⟨.tp [.t .marks, .i .i64], [], []⟩ k))⟩

end Ef
