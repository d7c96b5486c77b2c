/- E5_5: a part of the proof of EffectErrs: lemmas on the evaluator and on the functions that the law reaches. -/
import Derived.Test.YtfpfmibcnldepaaE5x4
set_option maxRecDepth 100000
set_option linter.unusedVariables false
namespace Ef
open Go TE Go.Proofs
noncomputable def r17_running_move_3 {R : Type} (N : Nat) (Op A N_ : Int) (S : List UInt8) (Value Cost Code arg at_ : Int) (Vars : List Int) (Raised : List Msg) (Effects : List Effc) (row rounds : List Int) (k0 k1 : Int → (List Int) → Option R) (k2 : (List Int) → Option R) : Option R :=
  if (Op == 23) = true then
    (k0 A rounds)
  else
    (if (Op == 24) = true then
      (r17_running_take_4 N Value Cost Code arg at_ Vars Raised Effects row rounds (fun (r1 : Int) (r2 : List Int) =>
      if (r1 == 0) = true then
        (k1 A r2)
      else
        (k1 at_ r2)))
    else
      (if (Op == 25) = true then
        (if ([] : List Int).length + rounds.length ≤ maxRow then (if (([] : List Int) ++ rounds).length + [N_].length ≤ maxRow then (k2 ((([] : List Int) ++ rounds) ++ [N_])) else none) else none)
      else
        (if (Op == 26) = true then
          (if (((rounds.length : Nat) : Int) == 0) = true then
            (k0 at_ rounds)
          else
            (if (0 : Int) ≤ IntKind.wrap .i64 (((rounds.length : Nat) : Int) - 1) ∧ IntKind.wrap .i64 (((rounds.length : Nat) : Int) - 1) < (rounds.length : Int) then (match rounds[(IntKind.wrap .i64 (((rounds.length : Nat) : Int) - 1)).toNat]? with
            | some e3 => (if (0 : Int) ≤ IntKind.wrap .i64 (((rounds.length : Nat) : Int) - 1) ∧ IntKind.wrap .i64 (((rounds.length : Nat) : Int) - 1) < (rounds.length : Int) then (match rounds[(IntKind.wrap .i64 (((rounds.length : Nat) : Int) - 1)).toNat]? with
                | some e4 => (if (0 : Int) ≤ IntKind.wrap .i64 (((rounds.length : Nat) : Int) - 1) ∧ IntKind.wrap .i64 (((rounds.length : Nat) : Int) - 1) < ((rounds.set ((IntKind.wrap .i64 (((rounds.length : Nat) : Int) - 1)).toNat) (IntKind.wrap .i64 (e3 - 1))).length : Int) then (match (rounds.set ((IntKind.wrap .i64 (((rounds.length : Nat) : Int) - 1)).toNat) (IntKind.wrap .i64 (e3 - 1)))[(IntKind.wrap .i64 (((rounds.length : Nat) : Int) - 1)).toNat]? with
            | some e5 => (if (decide (e5 > 0)) = true then
            (k0 (IntKind.wrap .i64 (A + 1)) (rounds.set ((IntKind.wrap .i64 (((rounds.length : Nat) : Int) - 1)).toNat) (IntKind.wrap .i64 (e3 - 1))))
          else
            (if (0 : Int) ≤ 0 ∧ 0 ≤ IntKind.wrap .i64 (((rounds.length : Nat) : Int) - 1) ∧ IntKind.wrap .i64 (((rounds.length : Nat) : Int) - 1) ≤ (((rounds.set ((IntKind.wrap .i64 (((rounds.length : Nat) : Int) - 1)).toNat) (IntKind.wrap .i64 (e3 - 1))).length : Nat) : Int) then (k0 at_ ((rounds.set ((IntKind.wrap .i64 (((rounds.length : Nat) : Int) - 1)).toNat) (IntKind.wrap .i64 (e3 - 1))).take ((IntKind.wrap .i64 (((rounds.length : Nat) : Int) - 1)).toNat - (Int.toNat 0)))) else none))
            | none => none) else none)
                | none => none) else none)
            | none => none) else none))
        else
          (k0 at_ rounds))))
noncomputable def r17_running_move_3_D (N : Nat) : FD E0 := { f := 44, fn := Try.f44, q := ⟨[.p 0 0 0, y3], [z23, .rw .i64 .own, .rw .msg .app, .rw .effc .app, .rw .i64 .own, .rw .i64 .own]⟩, g := [r17_running_take_4_S N], mode := fun | 27 => .own | 32 => .own | 35 => .own | 36 => .own | _ => .app, exit := [(⟨0, [9]⟩, .fresh .i64 .own)] }
noncomputable def r17_running_move_3_S (N : Nat) : OC E0 := ⟨_, FD.ct e0 (r17_running_move_3_D N) N (fun R k a b c d e g h i j l m o p q => r17_running_move_3 N a b c d e g h i j l m o p q (fun s => oK ⟨.tp [], [z28, .rw .i64 .own, .rw .msg .app, .rw .effc .app, .rw .i64 .own, .g], [.rw .i64 .own]⟩ k e g h i s l m o p) (fun s t => oK ⟨.tp [], [z29, .rw .i64 .own, .rw .msg .app, .rw .effc .app, .g, .g], [.rw .i64 .own, .rw .i64 .own]⟩ k e g h i s l m o t q) (oK ⟨.tp [], [z28, .rw .i64 .own, .rw .msg .app, .rw .effc .app, .rw .i64 .own, .rw .i64 .own], [.rw .i64 .own]⟩ k e g h i j l m o p q))⟩

def z30 : ShO S := .bx [.i .i64, .sw 1, .sw 2, .sw 3, .i .i64, .i .i64]
def z31 : ShO S := .bx [.i .i64, .ns, .ns, .ns, .i .i64, .i .i64]
def z32 : ShO S := .bx [.i .i64, .sw 2, .sw 3, .sw 4, .i .i64, .i .i64, .ns, .i .i64, .sw 5, .sw 6, .i .i64]
def y5 : Sh S := .ag [.i .i64, .t .i64, .t .msg, .t .effc, .i .i64, .i .i64]
noncomputable def r17_Run_c15 {R : Type} (N : Nat) (c_20 : List Ins) (fuel_21 e_22 v_23 v_24 v_25 r_26 r_27 r_28 r_29 r_30 : Int) (o_31 : List Int) (o_32 : List Msg) (o_33 : List Effc) (o_34 o_35 : List Int) (kp0 kp1 : Option R) : Option R :=
  if (e_22 != 0) = true then
    (kp0 )
  else
    (kp1 )
noncomputable def r17_Run_l0_b {R : Type} (N : Nat) (c_1 : List Ins) (fuel_2 v_3 v_4 v_5 r_6 r_8 r_9 : Int) (kp0 : Int → Int → (List Int) → (List Msg) → (List Effc) → (List Int) → (List Int) → Option R) (kp1 : Int → Int → (List Int) → (List Msg) → (List Effc) → Option R) (rec : Int → Int → (List Int) → (List Msg) → (List Effc) → (List Int) → (List Int) → Option R) (r_7 r_10 : Int) (o_11 : List Int) (o_12 : List Msg) (o_13 : List Effc) (o_14 o_15 : List Int) : Option R :=
  (ifB (decide (r_10 ≥ 0)) true (some (decide (r_10 < ((c_1.length : Nat) : Int)))) (some false)).bind fun c16 =>
  if c16 = true then
    (if (decide (r_7 ≥ (if (1048576 < fuel_2) then 1048576 else fuel_2))) = true then
    (kp1 r_7 4 o_11 o_12 o_13)
  else
    ((at? c_1 r_10).bind fun e17 =>
  if (decide (e17.Op < 18)) = true then
    (r17_running_reckon_4 N e17.Op e17.A e17.N e17.S r_6 (IntKind.wrap .i64 (r_7 + 1)) r_8 r_9 (IntKind.wrap .i64 (r_10 + 1)) o_11 o_12 o_13 o_14 o_15 (fun (r18 : Int) (r19 : List Int) =>
    r17_Run_c15 N c_1 fuel_2 r18 v_3 v_4 v_5 r_6 (IntKind.wrap .i64 (r_7 + 1)) r_8 r_9 (IntKind.wrap .i64 (r_10 + 1)) o_11 o_12 o_13 r19 o_15 (kp1 (IntKind.wrap .i64 (r_7 + 1)) r18 o_11 o_12 o_13)
      (rec (IntKind.wrap .i64 (r_7 + 1)) (IntKind.wrap .i64 (r_10 + 1)) o_11 o_12 o_13 r19 o_15)) (fun (r36 : Int) (r37 : List Int) =>
    r17_Run_c15 N c_1 fuel_2 r36 v_3 v_4 v_5 r_6 (IntKind.wrap .i64 (r_7 + 1)) r_8 r_9 (IntKind.wrap .i64 (r_10 + 1)) o_11 o_12 o_13 r37 o_15 (kp1 (IntKind.wrap .i64 (r_7 + 1)) r36 o_11 o_12 o_13)
      (rec (IntKind.wrap .i64 (r_7 + 1)) (IntKind.wrap .i64 (r_10 + 1)) o_11 o_12 o_13 r37 o_15)))
  else
    (if (decide (e17.Op ≤ 22)) = true then
      (r17_running_act_4 N e17.Op e17.A e17.N e17.S r_6 (IntKind.wrap .i64 (r_7 + 1)) r_8 r_9 (IntKind.wrap .i64 (r_10 + 1)) o_11 o_12 o_13 o_14 o_15 (fun (r38 : Int) (r39 : List Int) (r40 : List Int) =>
      r17_Run_c15 N c_1 fuel_2 r38 v_3 v_4 v_5 r_6 (IntKind.wrap .i64 (r_7 + 1)) r_8 r_9 (IntKind.wrap .i64 (r_10 + 1)) r39 o_12 o_13 r40 o_15 (kp1 (IntKind.wrap .i64 (r_7 + 1)) r38 r39 o_12 o_13)
        (rec (IntKind.wrap .i64 (r_7 + 1)) (IntKind.wrap .i64 (r_10 + 1)) r39 o_12 o_13 r40 o_15)) (fun (r41 : Int) (r42 : List Msg) (r43 : List Int) =>
      r17_Run_c15 N c_1 fuel_2 r41 v_3 v_4 v_5 r_6 (IntKind.wrap .i64 (r_7 + 1)) r_8 r_9 (IntKind.wrap .i64 (r_10 + 1)) o_11 r42 o_13 r43 o_15 (kp1 (IntKind.wrap .i64 (r_7 + 1)) r41 o_11 r42 o_13)
        (rec (IntKind.wrap .i64 (r_7 + 1)) (IntKind.wrap .i64 (r_10 + 1)) o_11 r42 o_13 r43 o_15)) (fun (r44 : Int) (r45 : List Effc) (r46 : List Int) =>
      r17_Run_c15 N c_1 fuel_2 r44 v_3 v_4 v_5 r_6 (IntKind.wrap .i64 (r_7 + 1)) r_8 r_9 (IntKind.wrap .i64 (r_10 + 1)) o_11 o_12 r45 r46 o_15 (kp1 (IntKind.wrap .i64 (r_7 + 1)) r44 o_11 o_12 r45)
        (rec (IntKind.wrap .i64 (r_7 + 1)) (IntKind.wrap .i64 (r_10 + 1)) o_11 o_12 r45 r46 o_15)))
    else
      (r17_running_move_3 N e17.Op e17.A e17.N e17.S r_6 (IntKind.wrap .i64 (r_7 + 1)) r_8 r_9 (IntKind.wrap .i64 (r_10 + 1)) o_11 o_12 o_13 o_14 o_15 (fun (r47 : Int) (r48 : List Int) =>
      r17_Run_c15 N c_1 fuel_2 0 v_3 v_4 v_5 r_6 (IntKind.wrap .i64 (r_7 + 1)) r_8 r_9 r47 o_11 o_12 o_13 o_14 r48 (kp1 (IntKind.wrap .i64 (r_7 + 1)) 0 o_11 o_12 o_13)
        (rec (IntKind.wrap .i64 (r_7 + 1)) r47 o_11 o_12 o_13 o_14 r48)) (fun (r49 : Int) (r50 : List Int) =>
      r17_Run_c15 N c_1 fuel_2 0 v_3 v_4 v_5 r_6 (IntKind.wrap .i64 (r_7 + 1)) r_8 r_9 r49 o_11 o_12 o_13 r50 o_15 (kp1 (IntKind.wrap .i64 (r_7 + 1)) 0 o_11 o_12 o_13)
        (rec (IntKind.wrap .i64 (r_7 + 1)) r49 o_11 o_12 o_13 r50 o_15)) (fun (r51 : List Int) =>
      r17_Run_c15 N c_1 fuel_2 0 v_3 v_4 v_5 r_6 (IntKind.wrap .i64 (r_7 + 1)) r_8 r_9 (IntKind.wrap .i64 (r_10 + 1)) o_11 o_12 o_13 o_14 r51 (kp1 (IntKind.wrap .i64 (r_7 + 1)) 0 o_11 o_12 o_13)
        (rec (IntKind.wrap .i64 (r_7 + 1)) (IntKind.wrap .i64 (r_10 + 1)) o_11 o_12 o_13 o_14 r51))))))
  else
    (kp0 r_7 r_10 o_11 o_12 o_13 o_14 o_15)
noncomputable def r17_Run_l0 {R : Type} (N : Nat) (c_1 : List Ins) (fuel_2 v_3 v_4 v_5 r_6 r_8 r_9 : Int) (kp0 : Int → Int → (List Int) → (List Msg) → (List Effc) → (List Int) → (List Int) → Option R) (kp1 : Int → Int → (List Int) → (List Msg) → (List Effc) → Option R) : Nat → Int → Int → (List Int) → (List Msg) → (List Effc) → (List Int) → (List Int) → Option R
  | 0 => fun _ _ _ _ _ _ _ => none
  | n + 1 => fun r_7 r_10 o_11 o_12 o_13 o_14 o_15 => r17_Run_l0_b N c_1 fuel_2 v_3 v_4 v_5 r_6 r_8 r_9 kp0 kp1 (r17_Run_l0 N c_1 fuel_2 v_3 v_4 v_5 r_6 r_8 r_9 kp0 kp1 n) r_7 r_10 o_11 o_12 o_13 o_14 o_15
noncomputable def r17_Run_c20 {R : Type} (N : Nat) (v_65 v_66 v_67 r_68 r_69 r_70 r_71 r_72 : Int) (o_73 : List Int) (o_74 : List Msg) (o_75 : List Effc) (o_76 o_77 : List Int) (kp0 : Option R) : Option R :=
  kp0 
noncomputable def r17_Run {R : Type} (N : Nat) (c : List Ins) (Vars : List Int) (arg fuel : Int) (k0 : Int → (List Int) → (List Msg) → (List Effc) → Int → Int → Option R) : Option R :=
  if ([] : List Int).length + Vars.length ≤ maxRow then (r17_Run_l0 N c fuel 0 0 0 0 0 arg (fun (y52 : Int) (y53 : Int) (y54 : List Int) (y55 : List Msg) (y56 : List Effc) (y57 : List Int) (y58 : List Int) =>
  if (decide (((y57.length : Nat) : Int) > 0)) = true then
    (if (0 : Int) ≤ IntKind.wrap .i64 (((y57.length : Nat) : Int) - 1) ∧ IntKind.wrap .i64 (((y57.length : Nat) : Int) - 1) < (y57.length : Int) then (match y57[(IntKind.wrap .i64 (((y57.length : Nat) : Int) - 1)).toNat]? with
      | some e64 => (r17_Run_c20 N 0 0 0 e64 y52 0 arg y53 y54 y55 y56 y57 y58 (k0 e64 y54 y55 y56 y52 0))
      | none => none) else none)
  else
    (r17_Run_c20 N 0 0 0 0 y52 0 arg y53 y54 y55 y56 y57 y58 (k0 0 y54 y55 y56 y52 0)))
    (fun (y59 : Int) (y60 : Int) (y61 : List Int) (y62 : List Msg) (y63 : List Effc) =>
  k0 0 y61 y62 y63 y59 y60) N 0 0 (([] : List Int) ++ Vars) ([] : List Msg) ([] : List Effc) ([] : List Int) ([] : List Int)) else none
noncomputable def r17_Run_D (N : Nat) : FD E0 := { f := 17, fn := Try.f17, q := ⟨[.t .ins, .ag [.ns, .t .i64, .ns], .i .i64, .i .i64], []⟩, loops := [{ cur := 0, live := [0, 3, 8, 9], fix := [(⟨9, [8]⟩, .row .i64 .own), (⟨9, [2]⟩, .row .msg .app), (⟨9, [3]⟩, .row .effc .app), (⟨9, [9]⟩, .row .i64 .own)], out := fun | .exit 0 => ([8, 9], []) | .ret => ([8], []) | _ => ([], []), q := ⟨[.t .ins, .i .i64, .p 0 0 0, .p 1 0 0], [z31, z32, .rw .i64 .own, .rw .msg .app, .rw .effc .app, .rw .i64 .own, .rw .i64 .own]⟩, G := fun R K n a b c d e g h i j l m o p q s => r17_Run_l0 N a b c d e g i j (fun t => pK ⟨[.p 0 0 0, .p 1 0 0], [z31, z32, .rw .i64 .own, .rw .msg .app, .rw .effc .app, .rw .i64 .own, .rw .i64 .own]⟩ (K (.exit 0)) c d e g t i j) (pK ⟨[.p 0 0 0], [z30, .rw .i64 .own, .rw .msg .app, .rw .effc .app]⟩ (K .ret) g) n h l m o p q s, B := fun R K rec a b c d e g h i j l m o p q s => r17_Run_l0_b N a b c d e g i j (fun t => pK ⟨[.p 0 0 0, .p 1 0 0], [z31, z32, .rw .i64 .own, .rw .msg .app, .rw .effc .app, .rw .i64 .own, .rw .i64 .own]⟩ (K (.exit 0)) c d e g t i j) (pK ⟨[.p 0 0 0], [z30, .rw .i64 .own, .rw .msg .app, .rw .effc .app]⟩ (K .ret) g) (fun h l m o p q s => rec a b c d e g h i j l m o p q s) h l m o p q s }], cuts := [{ key := 15, live := [0, 3, 8, 9, 11], fix := [(⟨9, [2]⟩, .row .msg .app), (⟨9, [3]⟩, .row .effc .app), (⟨9, [9]⟩, .row .i64 .own)], out := fun | .ret => ([8], []) | .normal => ([0, 3, 8, 9], []) | _ => ([], []), q := ⟨[.t .ins, .i .i64, .p 0 0 0, .p 1 0 0, .i .i64], [z31, z32, .rw .i64 .own, .rw .msg .app, .rw .effc .app, .rw .i64 .own, .rw .i64 .own]⟩, G := fun R K a b c d e g h i j l m o p q s t => r17_Run_c15 N a b c d e g h i j l m o p q s t (pK ⟨[.p 0 0 0], [z30, .rw .i64 .own, .rw .msg .app, .rw .effc .app]⟩ (K .ret) h i c o p q) (pK ⟨[.t .ins, .i .i64, .p 0 0 0, .p 1 0 0], [z31, z32, .rw .i64 .own, .rw .msg .app, .rw .effc .app, .rw .i64 .own, .rw .i64 .own]⟩ (K .normal) a b d e g h i j l m o p q s t) }, { key := 20, live := [8, 9], out := fun | .ret => ([8], []) | _ => ([], []), q := ⟨[.p 0 0 0, .p 1 0 0], [z31, z32, .rw .i64 .own, .rw .msg .app, .rw .effc .app, .rw .i64 .own, .rw .i64 .own]⟩, G := fun R K a b c d e g h i j l m o p => r17_Run_c20 N a b c d e g h i j l m o p (pK ⟨[.p 0 0 0], [z30, .rw .i64 .own, .rw .msg .app, .rw .effc .app]⟩ (K .ret) d e g j l m) }], g := [r17_running_reckon_4_S N, r17_running_act_4_S N, r17_running_move_3_S N], mode := fun | 12 => .own | 15 => .own | _ => .app, exit := [(⟨8, [1]⟩, .tree .i64), (⟨8, [2]⟩, .tree .msg), (⟨8, [3]⟩, .tree .effc)] }
noncomputable def r17_Run_S (N : Nat) : OC E0 := ⟨_, FD.ct e0 (r17_Run_D N) N (fun R k a b c d => r17_Run N a b c d (oK ⟨y5, [], []⟩ k))⟩

noncomputable def effect_Errs {R : Type} (N : Nat) (Kind N_ : Int) (Name : List UInt8) (Kids : List Expr) (At : Int) (Vars Ports Timers : List (List UInt8)) (Nodes : List Node) (fuel : Int) (k0 : Bool → Option R) : Option R :=
  effect_may N Kind N_ Name Kids At (fun (r1 : Bool) =>
  (ifB r1 false (code_Guard N Kind N_ Name Kids At Vars Ports Timers Nodes (fun (r2 : List Ins) =>
  code_Most N r2 (fun (r3 : Int) =>
  some (decide (r3 > fuel))))) (some true)).bind fun c4 =>
  k0 c4)
noncomputable def effect_Errs_D (N : Nat) : FD E0 := { f := 16, fn := Try.f16, q := ⟨[y2, y1, .i .i64], []⟩, g := [code_Most_S N, effect_may_S N, code_Guard_S N] }
noncomputable def effect_Errs_S (N : Nat) : OC E0 := ⟨_, FD.ct e0 (effect_Errs_D N) N (fun R k a b c d e g h i j l => effect_Errs N a b c d e g h i j l (oK ⟨.b, [], []⟩ k))⟩

noncomputable def r30_Errs {R : Type} (N : Nat) (Kind N_ : Int) (Name : List UInt8) (Kids : List Expr) (At : Int) (Vars Ports Timers : List (List UInt8)) (Nodes : List Node) (fuel : Int) (k0 : Bool → Option R) : Option R :=
  r30_errs N Kind N_ Name Kids At (fun (r1 : Bool) =>
  (ifB r1 false (r16_Guard N Kind N_ Name Kids At Vars Ports Timers Nodes (fun (r2 : List Ins) =>
  r16_Most N r2 (fun (r3 : Int) =>
  some (decide (r3 > fuel))))) (some true)).bind fun c4 =>
  k0 c4)
noncomputable def r30_Errs_D (N : Nat) : FD E0 := { f := 19, fn := Try.f19, q := ⟨[y2, y1, .i .i64], []⟩, g := [r16_Guard_S N, r16_Most_S N, r30_errs_S N] }
noncomputable def r30_Errs_S (N : Nat) : OC E0 := ⟨_, FD.ct e0 (r30_Errs_D N) N (fun R k a b c d e g h i j l => r30_Errs N a b c d e g h i j l (oK ⟨.b, [], []⟩ k))⟩

end Ef

