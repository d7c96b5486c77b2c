/- E20_1: a part of the proof of EffectMany: lemmas on the evaluator and on the functions that the law reaches. -/
import Derived.Test.YtfpfmibcnldepaaES3
set_option maxRecDepth 100000
set_option linter.unusedVariables false
namespace Ef
open Go TE Go.Proofs
def y0 : Sh S := .ag [.i .i64, .i .i64, .st, .t .expr, .i .i64]
structure Fam_slices_ContainsFunc_Expr where
  slices_ContainsFunc_Expr : (R : Type) → (List Expr) → (Bool → Option R) → Option R
  slices_IndexFunc_Expr : (R : Type) → (List Expr) → (Int → Option R) → Option R
  effect_may : (R : Type) → Int → Int → (List UInt8) → (List Expr) → Int → (Bool → Option R) → Option R

def slices_ContainsFunc_Expr_q : Pat S := ⟨[.t .expr, .fn 40 []], []⟩
noncomputable def slices_ContainsFunc_Expr_C (F : Fam_slices_ContainsFunc_Expr) : Ct S := ⟨62, slices_ContainsFunc_Expr_q, fun R k a => F.slices_ContainsFunc_Expr R a (oK ⟨.b, [], []⟩ k)⟩
def slices_IndexFunc_Expr_q : Pat S := ⟨[.t .expr, .fn 40 []], []⟩
noncomputable def slices_IndexFunc_Expr_C (F : Fam_slices_ContainsFunc_Expr) : Ct S := ⟨97, slices_IndexFunc_Expr_q, fun R k a => F.slices_IndexFunc_Expr R a (oK ⟨.i .i64, [], []⟩ k)⟩
def effect_may_q : Pat S := ⟨[y0], []⟩
noncomputable def effect_may_C (F : Fam_slices_ContainsFunc_Expr) : Ct S := ⟨40, effect_may_q, fun R k a b c d e => F.effect_may R a b c d e (oK ⟨.b, [], []⟩ k)⟩
structure Fam_slices_ContainsFunc_Expr_ok (F : Fam_slices_ContainsFunc_Expr) : Prop where
  slices_ContainsFunc_Expr : (slices_ContainsFunc_Expr_C F).ok E0
  slices_IndexFunc_Expr : (slices_IndexFunc_Expr_C F).ok E0
  effect_may : (effect_may_C F).ok E0

noncomputable def slices_ContainsFunc_Expr_d (F : Fam_slices_ContainsFunc_Expr) {R : Type} (N : Nat) (s : List Expr) (k0 : Bool → Option R) : Option R :=
  F.slices_IndexFunc_Expr _ s (fun (r1 : Int) =>
  k0 (decide (r1 ≥ 0)))
noncomputable def slices_ContainsFunc_Expr_D (F : Fam_slices_ContainsFunc_Expr) (hF : Fam_slices_ContainsFunc_Expr_ok F) (N : Nat) : FD E0 := { f := 62, fn := Try.f62, q := slices_ContainsFunc_Expr_q, g := [⟨slices_IndexFunc_Expr_C F, hF.slices_IndexFunc_Expr⟩] }
theorem slices_ContainsFunc_Expr_okF (F : Fam_slices_ContainsFunc_Expr) (hF : Fam_slices_ContainsFunc_Expr_ok F) (N : Nat) : Ct.ok E0 ⟨(slices_ContainsFunc_Expr_D F hF N).f, (slices_ContainsFunc_Expr_D F hF N).q, fun R k a => slices_ContainsFunc_Expr_d F N a (oK ⟨.b, [], []⟩ k)⟩ := FD.ct e0 (slices_ContainsFunc_Expr_D F hF N) N (fun R k a => slices_ContainsFunc_Expr_d F N a (oK ⟨.b, [], []⟩ k))

noncomputable def slices_IndexFunc_Expr_l0_b (F : Fam_slices_ContainsFunc_Expr) {R : Type} (N : Nat) (s_1 : List Expr) (v_2 : Int) (kp0 : Option R) (kp1 : Int → Option R) (rec : Int → Option R) (v_3 : Int) : Option R :=
  if (decide (v_3 < v_2)) = true then
    ((at? s_1 v_3).bind fun e4 =>
  F.effect_may _ e4.Kind e4.N e4.Name e4.Kids e4.At (fun (r5 : Bool) =>
  if r5 = true then
    (kp1 v_3)
  else
    (rec (IntKind.wrap .i64 (v_3 + 1)))))
  else
    (kp0 )
noncomputable def slices_IndexFunc_Expr_l0 (F : Fam_slices_ContainsFunc_Expr) {R : Type} (N : Nat) (s_1 : List Expr) (v_2 : Int) (kp0 : Option R) (kp1 : Int → Option R) : Nat → Int → Option R
  | 0 => fun _ => none
  | n + 1 => fun v_3 => slices_IndexFunc_Expr_l0_b F N s_1 v_2 kp0 kp1 (slices_IndexFunc_Expr_l0 F N s_1 v_2 kp0 kp1 n) v_3
noncomputable def slices_IndexFunc_Expr_d (F : Fam_slices_ContainsFunc_Expr) {R : Type} (N : Nat) (s : List Expr) (k0 : Int → Option R) : Option R :=
  slices_IndexFunc_Expr_l0 F N s ((s.length : Nat) : Int) (k0 (-1))
    (fun (y6 : Int) =>
  k0 y6) N 0
noncomputable def slices_IndexFunc_Expr_D (F : Fam_slices_ContainsFunc_Expr) (hF : Fam_slices_ContainsFunc_Expr_ok F) (N : Nat) : FD E0 := { f := 97, fn := Try.f97, q := slices_IndexFunc_Expr_q, loops := [{ cur := 0, live := [0, 1, 7, 8], out := fun | .exit 0 => ([], []) | .ret => ([4], []) | _ => ([], []), q := ⟨[.t .expr, .fn 40 [], .i .i64, .i .i64], []⟩, G := fun R K n a b c => slices_IndexFunc_Expr_l0 F N a b (pK ⟨[], []⟩ (K (.exit 0))) (pK ⟨[.i .i64], []⟩ (K .ret)) n c, B := fun R K rec a b c => slices_IndexFunc_Expr_l0_b F N a b (pK ⟨[], []⟩ (K (.exit 0))) (pK ⟨[.i .i64], []⟩ (K .ret)) (rec a b) c }], g := [⟨effect_may_C F, hF.effect_may⟩] }
theorem slices_IndexFunc_Expr_okF (F : Fam_slices_ContainsFunc_Expr) (hF : Fam_slices_ContainsFunc_Expr_ok F) (N : Nat) : Ct.ok E0 ⟨(slices_IndexFunc_Expr_D F hF N).f, (slices_IndexFunc_Expr_D F hF N).q, fun R k a => slices_IndexFunc_Expr_d F N a (oK ⟨.i .i64, [], []⟩ k)⟩ := FD.ct e0 (slices_IndexFunc_Expr_D F hF N) N (fun R k a => slices_IndexFunc_Expr_d F N a (oK ⟨.i .i64, [], []⟩ k))

def z0 : ShO S := .bx [.i .i64, .i .i64, .st, .t .expr, .i .i64]
noncomputable def effect_may_c9 (F : Fam_slices_ContainsFunc_Expr) {R : Type} (N : Nat) (e_1 e_2 : Int) (e_3 : List UInt8) (e_4 : List Expr) (e_5 : Int) (kp0 : Bool → Option R) : Option R :=
  F.slices_ContainsFunc_Expr _ e_4 (fun (r6 : Bool) =>
  kp0 r6)
noncomputable def effect_may_d (F : Fam_slices_ContainsFunc_Expr) {R : Type} (N : Nat) (Kind N_ : Int) (Name : List UInt8) (Kids : List Expr) (At : Int) (k0 : Bool → Option R) : Option R :=
  if (Kind == 5) = true then
    (if (Kind == 5) = true then
      (k0 true)
    else
      (effect_may_c9 F N Kind N_ Name Kids At (fun (y7 : Bool) =>
      k0 y7)))
  else
    (if (Kind == 7) = true then
      (if (Kind == 7) = true then
        (k0 true)
      else
        (effect_may_c9 F N Kind N_ Name Kids At (fun (y8 : Bool) =>
        k0 y8)))
    else
      (if (Kind == 8) = true then
        (if (Kind == 8) = true then
          (k0 true)
        else
          (effect_may_c9 F N Kind N_ Name Kids At (fun (y9 : Bool) =>
          k0 y9)))
      else
        (if (Kind == 9) = true then
          (if (Kind == 9) = true then
            (k0 true)
          else
            (effect_may_c9 F N Kind N_ Name Kids At (fun (y10 : Bool) =>
            k0 y10)))
        else
          (if (Kind == 10) = true then
            (if (Kind == 10) = true then
              (k0 true)
            else
              (effect_may_c9 F N Kind N_ Name Kids At (fun (y11 : Bool) =>
              k0 y11)))
          else
            (if (Kind == 11) = true then
              (k0 true)
            else
              (effect_may_c9 F N Kind N_ Name Kids At (fun (y12 : Bool) =>
              k0 y12)))))))
noncomputable def effect_may_D (F : Fam_slices_ContainsFunc_Expr) (hF : Fam_slices_ContainsFunc_Expr_ok F) (N : Nat) : FD E0 := { f := 40, fn := Try.f40, q := effect_may_q, cuts := [{ key := 9, live := [1], out := fun | .ret => ([2], []) | _ => ([], []), q := ⟨[.p 0 0 0], [z0]⟩, G := fun R K a b c d e => effect_may_c9 F N a b c d e (pK ⟨[.b], []⟩ (K .ret)) }], g := [⟨slices_ContainsFunc_Expr_C F, hF.slices_ContainsFunc_Expr⟩] }
theorem effect_may_okF (F : Fam_slices_ContainsFunc_Expr) (hF : Fam_slices_ContainsFunc_Expr_ok F) (N : Nat) : Ct.ok E0 ⟨(effect_may_D F hF N).f, (effect_may_D F hF N).q, fun R k a b c d e => effect_may_d F N a b c d e (oK ⟨.b, [], []⟩ k)⟩ := FD.ct e0 (effect_may_D F hF N) N (fun R k a b c d e => effect_may_d F N a b c d e (oK ⟨.b, [], []⟩ k))

noncomputable def Fam_slices_ContainsFunc_Expr_next (F : Fam_slices_ContainsFunc_Expr) (N : Nat) : Fam_slices_ContainsFunc_Expr where
  slices_ContainsFunc_Expr := fun R s k0 => slices_ContainsFunc_Expr_d F N s k0
  slices_IndexFunc_Expr := fun R s k0 => slices_IndexFunc_Expr_d F N s k0
  effect_may := fun R Kind N_ Name Kids At k0 => effect_may_d F N Kind N_ Name Kids At k0
noncomputable def Fam_slices_ContainsFunc_Expr_at (N : Nat) : Nat → Fam_slices_ContainsFunc_Expr
  | 0 => { slices_ContainsFunc_Expr := fun _ _ _ => none, slices_IndexFunc_Expr := fun _ _ _ => none, effect_may := fun _ _ _ _ _ _ _ => none }
  | d + 1 => Fam_slices_ContainsFunc_Expr_next (Fam_slices_ContainsFunc_Expr_at N d) N
theorem Fam_slices_ContainsFunc_Expr_at_ok (N : Nat) : ∀ d, Fam_slices_ContainsFunc_Expr_ok (Fam_slices_ContainsFunc_Expr_at N d)
  | 0 => { slices_ContainsFunc_Expr := Ct.ok_none, slices_IndexFunc_Expr := Ct.ok_none, effect_may := Ct.ok_none }
  | d + 1 => { slices_ContainsFunc_Expr := slices_ContainsFunc_Expr_okF _ (Fam_slices_ContainsFunc_Expr_at_ok N d) N, slices_IndexFunc_Expr := slices_IndexFunc_Expr_okF _ (Fam_slices_ContainsFunc_Expr_at_ok N d) N, effect_may := effect_may_okF _ (Fam_slices_ContainsFunc_Expr_at_ok N d) N }
noncomputable def slices_ContainsFunc_Expr {R : Type} (N : Nat) (s : List Expr) (k0 : Bool → Option R) : Option R := (Fam_slices_ContainsFunc_Expr_at N N).slices_ContainsFunc_Expr R s k0
theorem slices_ContainsFunc_Expr_at {R : Type} (N d : Nat) (s : List Expr) (k0 : Bool → Option R) : (Fam_slices_ContainsFunc_Expr_at N (d + 1)).slices_ContainsFunc_Expr R s k0 = slices_ContainsFunc_Expr_d (Fam_slices_ContainsFunc_Expr_at N d) N s k0 := rfl
noncomputable def slices_ContainsFunc_Expr_S (N : Nat) : OC E0 := ⟨slices_ContainsFunc_Expr_C (Fam_slices_ContainsFunc_Expr_at N N), (Fam_slices_ContainsFunc_Expr_at_ok N N).slices_ContainsFunc_Expr⟩
noncomputable def slices_IndexFunc_Expr {R : Type} (N : Nat) (s : List Expr) (k0 : Int → Option R) : Option R := (Fam_slices_ContainsFunc_Expr_at N N).slices_IndexFunc_Expr R s k0
theorem slices_IndexFunc_Expr_at {R : Type} (N d : Nat) (s : List Expr) (k0 : Int → Option R) : (Fam_slices_ContainsFunc_Expr_at N (d + 1)).slices_IndexFunc_Expr R s k0 = slices_IndexFunc_Expr_d (Fam_slices_ContainsFunc_Expr_at N d) N s k0 := rfl
noncomputable def slices_IndexFunc_Expr_S (N : Nat) : OC E0 := ⟨slices_IndexFunc_Expr_C (Fam_slices_ContainsFunc_Expr_at N N), (Fam_slices_ContainsFunc_Expr_at_ok N N).slices_IndexFunc_Expr⟩
noncomputable def effect_may {R : Type} (N : Nat) (Kind N_ : Int) (Name : List UInt8) (Kids : List Expr) (At : Int) (k0 : Bool → Option R) : Option R := (Fam_slices_ContainsFunc_Expr_at N N).effect_may R Kind N_ Name Kids At k0
theorem effect_may_at {R : Type} (N d : Nat) (Kind N_ : Int) (Name : List UInt8) (Kids : List Expr) (At : Int) (k0 : Bool → Option R) : (Fam_slices_ContainsFunc_Expr_at N (d + 1)).effect_may R Kind N_ Name Kids At k0 = effect_may_d (Fam_slices_ContainsFunc_Expr_at N d) N Kind N_ Name Kids At k0 := rfl
noncomputable def effect_may_S (N : Nat) : OC E0 := ⟨effect_may_C (Fam_slices_ContainsFunc_Expr_at N N), (Fam_slices_ContainsFunc_Expr_at_ok N N).effect_may⟩

def z1 : ShO S := .bx [.sw 1, .sw 2, .m 3, .t .str, .t .str, .t .str, .t .node, .b]
def z2 : ShO S := .mx true [.int .i64, .int .i64, .str] false .int
noncomputable def effect_rows_put {R : Type} (N : Nat) (row : Int) (Vars Ports Timers : List (List UInt8)) (Nodes : List Node) (many : Bool) (l : List Next) (long : List Int) (known_L : List (List Sc × Int × Nat)) (known_cl : Nat) (s_L : List (List Sc × Bool × Nat)) (s_cl : Nat) (k0 : Bool → (List (List Sc × Bool × Nat)) → Nat → Option R) : Option R :=
  (ifB many false (some (decide ((((updM [.int .i64 row] true s_cl s_L).length : Nat) : Int) > 64))) (some true)).bind fun c1 =>
  (ifB c1 false (if (0 : Int) ≤ row ∧ row < (long.length : Int) then (match long[row.toNat]? with
    | some e2 => (some (decide (e2 > 64)))
    | none => none) else none) (some true)).bind fun c3 =>
  k0 c3 (updM [.int .i64 row] true s_cl s_L) (if (findM [.int .i64 row] s_L).isSome = true then s_cl else s_cl + 1)
noncomputable def effect_rows_put_D (N : Nat) : FD E0 := { f := 50, fn := Try.f50, q := ⟨[.p 0 0 0, .m 4, .i .i64], [z1, .rw .next .app, .rw .int .app, z2, .mx false [.int .i64] false .bool]⟩ }
noncomputable def effect_rows_put_S (N : Nat) : OC E0 := ⟨_, FD.ct e0 (effect_rows_put_D N) N (fun R k a b c d e g h i j l m o => effect_rows_put N a b c d e g h i j l m o (fun p => oK ⟨.tp [], [z1, .rw .next .app, .rw .int .app, z2, .mx false [.int .i64] false .bool], []⟩ k b c d e p h i j l))⟩

noncomputable def effect_rows_fail_l0_b {R : Type} (N : Nat) (r_1 r_2 r_3 : List (List UInt8)) (r_4 : List Node) (o_6 : List Next) (o_7 : List Int) (o_8 : List (List Sc × Int × Nat)) (o_9 : Nat) (b_10 : Bool) (o_11 : List (List Sc × Bool × Nat)) (o_12 v_15 : Nat) (kp0 : Bool → (List (List Sc × Bool × Nat)) → Nat → Option R) (rec : Bool → (List (List Sc × Bool × Nat)) → Nat → (List Nat) → Nat → Option R) (r_5 : Bool) (o_13 : List (List Sc × Bool × Nat)) (o_14 : Nat) (v_16 : List Nat) (v_17 : Nat) : Option R :=
  nextC v_15 v_16 v_17 o_11 (kp0 r_5 o_13 o_14) fun n18 =>
  if o_12 = o_12 then (match findB n18.2.2 o_11 with
  | some en19 => (effect_rows_put N (scI en19.1) r_1 r_2 r_3 r_4 r_5 o_6 o_7 o_8 o_9 o_13 o_14 (fun (r20 : Bool) (r21 : List (List Sc × Bool × Nat)) (r22 : Nat) =>
  rec r20 r21 r22 (n18.2.2 :: v_16) o_12))
  | none => none) else none
noncomputable def effect_rows_fail_l0 {R : Type} (N : Nat) (r_1 r_2 r_3 : List (List UInt8)) (r_4 : List Node) (o_6 : List Next) (o_7 : List Int) (o_8 : List (List Sc × Int × Nat)) (o_9 : Nat) (b_10 : Bool) (o_11 : List (List Sc × Bool × Nat)) (o_12 v_15 : Nat) (kp0 : Bool → (List (List Sc × Bool × Nat)) → Nat → Option R) : Nat → Bool → (List (List Sc × Bool × Nat)) → Nat → (List Nat) → Nat → Option R
  | 0 => fun _ _ _ _ _ => none
  | n + 1 => fun r_5 o_13 o_14 v_16 v_17 => effect_rows_fail_l0_b N r_1 r_2 r_3 r_4 o_6 o_7 o_8 o_9 b_10 o_11 o_12 v_15 kp0 (effect_rows_fail_l0 N r_1 r_2 r_3 r_4 o_6 o_7 o_8 o_9 b_10 o_11 o_12 v_15 kp0 n) r_5 o_13 o_14 v_16 v_17
noncomputable def effect_rows_fail {R : Type} (N : Nat) (Vars Ports Timers : List (List UInt8)) (Nodes : List Node) (many : Bool) (l : List Next) (long : List Int) (known_L : List (List Sc × Int × Nat)) (known_cl : Nat) (both : Bool) (t_L : List (List Sc × Bool × Nat)) (t_cl : Nat) (f_L : List (List Sc × Bool × Nat)) (f_cl : Nat) (k0 : Bool → Bool → (List (List Sc × Bool × Nat)) → Nat → Option R) : Option R :=
  if both = true then
    (k0 many both f_L f_cl)
  else
    (effect_rows_fail_l0 N Vars Ports Timers Nodes l long known_L known_cl both t_L t_cl t_cl (fun (y23 : Bool) (y24 : List (List Sc × Bool × Nat)) (y25 : Nat) =>
  k0 y23 true y24 y25) N many f_L f_cl [] t_cl)
noncomputable def effect_rows_fail_D (N : Nat) : FD E0 := { f := 75, fn := Try.f75, q := ⟨[.p 0 0 0, .p 4 0 0], [z1, .rw .next .app, .rw .int .app, z2, .bx [.m 5, .m 6, .b], .mx false [.int .i64] false .bool, .mx false [.int .i64] false .bool]⟩, loops := [{ cur := 0, live := [0, 1, 13], out := fun | .exit 0 => ([1], []) | _ => ([], []), q := ⟨[.p 0 0 0, .p 4 0 0, .p 7 0 0], [z1, .rw .next .app, .rw .int .app, z2, .bx [.m 5, .m 6, .b], .mx false [.int .i64] false .bool, .mx false [.int .i64] false .bool, .it 5]⟩, G := fun R K n a b c d e g h i j l m o p q s t u => effect_rows_fail_l0 N a b c d g h i j l m o s (fun v => pK ⟨[.p 4 0 0], [z1, .rw .next .app, .rw .int .app, z2, .bx [.m 5, .m 6, .b], .mx false [.int .i64] false .bool, .mx false [.int .i64] false .bool]⟩ (K (.exit 0)) a b c d v g h i j l m o) n e p q t u, B := fun R K rec a b c d e g h i j l m o p q s t u => effect_rows_fail_l0_b N a b c d g h i j l m o s (fun v => pK ⟨[.p 4 0 0], [z1, .rw .next .app, .rw .int .app, z2, .bx [.m 5, .m 6, .b], .mx false [.int .i64] false .bool, .mx false [.int .i64] false .bool]⟩ (K (.exit 0)) a b c d v g h i j l m o) (fun e p q t u => rec a b c d e g h i j l m o p q s t u) e p q t u }], g := [effect_rows_put_S N], nd := true }
noncomputable def effect_rows_fail_S (N : Nat) : OCM E0 := ⟨_, FD.ctm e0 (effect_rows_fail_D N) N (fun R k a b c d e g h i j l m o p q => effect_rows_fail N a b c d e g h i j l m o p q (fun s t => oK ⟨.tp [], [z1, .rw .next .app, .rw .int .app, z2, .bx [.m 5, .m 6, .b], .mx false [.int .i64] false .bool, .mx false [.int .i64] false .bool], []⟩ k a b c d s g h i j t m o))⟩

def z3 : ShO S := .bx [.sw 4, .sw 5, .m 3, .t .str, .t .str, .t .str, .t .node, .b]
noncomputable def effect_rows_more {R : Type} (N : Nat) (row Port : Int) (Event : List UInt8) (Vars Ports Timers : List (List UInt8)) (Nodes : List Node) (many : Bool) (l : List Next) (long : List Int) (known_L : List (List Sc × Int × Nat)) (known_cl : Nat) (k0 : Int → Option R) (k1 : Int → (List (List Sc × Int × Nat)) → Nat → (List Next) → (List Int) → Option R) : Option R :=
  if ((findM [.int .i64 row, .int .i64 Port, .str Event] known_L).isSome) = true then
    (k0 ((findM [.int .i64 row, .int .i64 Port, .str Event] known_L).getD 0))
  else
    (if l.length + [(⟨row, (⟨Port, Event⟩ : Mark)⟩ : Next)].length ≤ maxRow then (if (0 : Int) ≤ row ∧ row < (long.length : Int) then (match long[row.toNat]? with
    | some e1 => (if long.length + [IntKind.wrap .i64 (e1 + 1)].length ≤ maxRow then (k1 (IntKind.wrap .i64 ((((l ++ [(⟨row, (⟨Port, Event⟩ : Mark)⟩ : Next)]).length : Nat) : Int) - 1)) (updM [.int .i64 row, .int .i64 Port, .str Event] (IntKind.wrap .i64 ((((l ++ [(⟨row, (⟨Port, Event⟩ : Mark)⟩ : Next)]).length : Nat) : Int) - 1)) known_cl known_L) (if (findM [.int .i64 row, .int .i64 Port, .str Event] known_L).isSome = true then known_cl else known_cl + 1) (l ++ [(⟨row, (⟨Port, Event⟩ : Mark)⟩ : Next)]) (long ++ [IntKind.wrap .i64 (e1 + 1)])) else none)
    | none => none) else none) else none)
noncomputable def effect_rows_more_D (N : Nat) : FD E0 := { f := 108, fn := Try.f108, q := ⟨[.p 0 0 0, .i .i64, .ag [.i .i64, .st]], [z1, .rw .next .app, .rw .int .app, z2]⟩ }
noncomputable def effect_rows_more_S (N : Nat) : OC E0 := ⟨_, FD.ct e0 (effect_rows_more_D N) N (fun R k a b c d e g h i j l m o => effect_rows_more N a b c d e g h i j l m o (fun p => oK ⟨.i .i64, [z1, .rw .next .app, .rw .int .app, z2], []⟩ k p d e g h i j l m o) (fun p => oK ⟨.i .i64, [z3, .rw .next .ro, .rw .int .ro, z2], [.rw .next .app, .rw .int .app]⟩ k p d e g h i j l))⟩

def z4 : ShO S := .bx [.sw 7, .sw 8, .m 3, .t .str, .t .str, .t .str, .t .node, .b]
noncomputable def effect_rows_mark_l0_b {R : Type} (N : Nat) (r_36 r_37 r_38 : List (List UInt8)) (r_39 : List Node) (o_41 : List Next) (o_42 : List Int) (b_45 : Bool) (o_46 : List (List Sc × Bool × Nat)) (o_47 : Nat) (o_48 : List (List Sc × Bool × Nat)) (o_49 : Nat) (m_52 : Int) (m_53 : List UInt8) (v_56 : Nat) (kp0 : Bool → (List (List Sc × Int × Nat)) → Nat → (List Next) → (List Int) → (List (List Sc × Bool × Nat)) → Nat → Option R) (rec : Bool → (List (List Sc × Int × Nat)) → Nat → (List Next) → (List Int) → (List (List Sc × Bool × Nat)) → Nat → (List Nat) → Nat → Option R) (r_40 : Bool) (o_43 : List (List Sc × Int × Nat)) (o_44 : Nat) (o_50 : List Next) (o_51 : List Int) (t_54 : List (List Sc × Bool × Nat)) (t_55 : Nat) (v_57 : List Nat) (v_58 : Nat) : Option R :=
  nextC v_56 v_57 v_58 o_46 (kp0 r_40 o_43 o_44 o_50 o_51 t_54 t_55) fun n59 =>
  if o_47 = o_47 then (match findB n59.2.2 o_46 with
  | some en60 => (effect_rows_more N (scI en60.1) m_52 m_53 r_36 r_37 r_38 r_39 r_40 o_50 o_51 o_43 o_44 (fun (r61 : Int) =>
  effect_rows_put N r61 r_36 r_37 r_38 r_39 r_40 o_50 o_51 o_43 o_44 t_54 t_55 (fun (r62 : Bool) (r63 : List (List Sc × Bool × Nat)) (r64 : Nat) =>
  rec r62 o_43 o_44 o_50 o_51 r63 r64 (n59.2.2 :: v_57) o_47)) (fun (r65 : Int) (r66 : List (List Sc × Int × Nat)) (r67 : Nat) (r68 : List Next) (r69 : List Int) =>
  effect_rows_put N r65 r_36 r_37 r_38 r_39 r_40 r68 r69 r66 r67 t_54 t_55 (fun (r70 : Bool) (r71 : List (List Sc × Bool × Nat)) (r72 : Nat) =>
  rec r70 r66 r67 r68 r69 r71 r72 (n59.2.2 :: v_57) o_47)))
  | none => none) else none
noncomputable def effect_rows_mark_l0 {R : Type} (N : Nat) (r_36 r_37 r_38 : List (List UInt8)) (r_39 : List Node) (o_41 : List Next) (o_42 : List Int) (b_45 : Bool) (o_46 : List (List Sc × Bool × Nat)) (o_47 : Nat) (o_48 : List (List Sc × Bool × Nat)) (o_49 : Nat) (m_52 : Int) (m_53 : List UInt8) (v_56 : Nat) (kp0 : Bool → (List (List Sc × Int × Nat)) → Nat → (List Next) → (List Int) → (List (List Sc × Bool × Nat)) → Nat → Option R) : Nat → Bool → (List (List Sc × Int × Nat)) → Nat → (List Next) → (List Int) → (List (List Sc × Bool × Nat)) → Nat → (List Nat) → Nat → Option R
  | 0 => fun _ _ _ _ _ _ _ _ _ => none
  | n + 1 => fun r_40 o_43 o_44 o_50 o_51 t_54 t_55 v_57 v_58 => effect_rows_mark_l0_b N r_36 r_37 r_38 r_39 o_41 o_42 b_45 o_46 o_47 o_48 o_49 m_52 m_53 v_56 kp0 (effect_rows_mark_l0 N r_36 r_37 r_38 r_39 o_41 o_42 b_45 o_46 o_47 o_48 o_49 m_52 m_53 v_56 kp0 n) r_40 o_43 o_44 o_50 o_51 t_54 t_55 v_57 v_58
noncomputable def effect_rows_mark {R : Type} (N : Nat) (Port : Int) (Event : List UInt8) (Vars Ports Timers : List (List UInt8)) (Nodes : List Node) (many : Bool) (l : List Next) (long : List Int) (known_L : List (List Sc × Int × Nat)) (known_cl : Nat) (both : Bool) (t_L : List (List Sc × Bool × Nat)) (t_cl : Nat) (f_L : List (List Sc × Bool × Nat)) (f_cl : Nat) (k0 : Bool → (List (List Sc × Int × Nat)) → Nat → Bool → (List Next) → (List Int) → (List (List Sc × Bool × Nat)) → Nat → Option R) : Option R :=
  effect_rows_mark_l0 N Vars Ports Timers Nodes l long both t_L t_cl f_L f_cl Port Event t_cl (fun (y73 : Bool) (y74 : List (List Sc × Int × Nat)) (y75 : Nat) (y76 : List Next) (y77 : List Int) (y78 : List (List Sc × Bool × Nat)) (y79 : Nat) =>
  k0 y73 y74 y75 false y76 y77 y78 y79) N many known_L known_cl l long ([] : List (List Sc × Bool × Nat)) 0 [] t_cl
noncomputable def effect_rows_mark_D (N : Nat) : FD E0 := { f := 76, fn := Try.f76, q := ⟨[.p 0 0 0, .p 4 0 0, .ag [.i .i64, .st]], [z1, .rw .next .app, .rw .int .app, z2, .bx [.m 5, .m 6, .b], .mx false [.int .i64] false .bool, .mx false [.int .i64] false .bool]⟩, loops := [{ cur := 0, live := [0, 1, 5, 6, 13], fix := [(⟨0, [0]⟩, .fresh .next .app), (⟨0, [1]⟩, .fresh .int .app)], out := fun | .exit 0 => ([1, 6], []) | _ => ([], []), q := ⟨[.p 0 0 0, .p 4 0 0, .p 9 0 0, .m 10, .p 11 0 0], [z4, .rw .next .ro, .rw .int .ro, z2, .bx [.m 5, .m 6, .b], .mx false [.int .i64] false .bool, .mx false [.int .i64] false .bool, .rw .next .app, .rw .int .app, .bx [.i .i64, .st], .mx false [.int .i64] false .bool, .it 5]⟩, G := fun R K n a b c d e g h i j l m o p q s t u v w x y z a1 => effect_rows_mark_l0 N a b c d g h l m o p q u v y (fun b1 c1 d1 => pK ⟨[.p 4 0 0, .m 9], [z4, .rw .next .ro, .rw .int .ro, z2, .bx [.m 5, .m 6, .b], .mx false [.int .i64] false .bool, .mx false [.int .i64] false .bool, .rw .next .app, .rw .int .app, .mx false [.int .i64] false .bool]⟩ (K (.exit 0)) a b c d b1 g h c1 d1 l m o p q) n e i j s t w x z a1, B := fun R K rec a b c d e g h i j l m o p q s t u v w x y z a1 => effect_rows_mark_l0_b N a b c d g h l m o p q u v y (fun b1 c1 d1 => pK ⟨[.p 4 0 0, .m 9], [z4, .rw .next .ro, .rw .int .ro, z2, .bx [.m 5, .m 6, .b], .mx false [.int .i64] false .bool, .mx false [.int .i64] false .bool, .rw .next .app, .rw .int .app, .mx false [.int .i64] false .bool]⟩ (K (.exit 0)) a b c d b1 g h c1 d1 l m o p q) (fun e i j s t w x z a1 => rec a b c d e g h i j l m o p q s t u v w x y z a1) e i j s t w x z a1 }], g := [effect_rows_put_S N, effect_rows_more_S N], nd := true }
noncomputable def effect_rows_mark_S (N : Nat) : OCM E0 := ⟨_, FD.ctm e0 (effect_rows_mark_D N) N (fun R k a b c d e g h i j l m o p q s t => effect_rows_mark N a b c d e g h i j l m o p q s t (fun u v w x => oK ⟨.tp [], [z4, .rw .next .ro, .rw .int .ro, z2, .bx [.m 9, .m 6, .b], .mx false [.int .i64] false .bool, .mx false [.int .i64] false .bool], [.rw .next .app, .rw .int .app, .mx false [.int .i64] false .bool]⟩ k c d e g u i j v w x p q s t))⟩

noncomputable def slices_Index_string_l0_b {R : Type} (N : Nat) (s_1 : List (List UInt8)) (v_2 : List UInt8) (v_3 : Int) (kp0 : Option R) (kp1 : Int → Option R) (rec : Int → Option R) (v_4 : Int) : Option R :=
  if (decide (v_4 < v_3)) = true then
    ((at? s_1 v_4).bind fun e5 =>
  if (v_2 == e5) = true then
    (kp1 v_4)
  else
    (rec (IntKind.wrap .i64 (v_4 + 1))))
  else
    (kp0 )
noncomputable def slices_Index_string_l0 {R : Type} (N : Nat) (s_1 : List (List UInt8)) (v_2 : List UInt8) (v_3 : Int) (kp0 : Option R) (kp1 : Int → Option R) : Nat → Int → Option R
  | 0 => fun _ => none
  | n + 1 => fun v_4 => slices_Index_string_l0_b N s_1 v_2 v_3 kp0 kp1 (slices_Index_string_l0 N s_1 v_2 v_3 kp0 kp1 n) v_4
noncomputable def slices_Index_string {R : Type} (N : Nat) (s : List (List UInt8)) (v : List UInt8) (k0 : Int → Option R) : Option R :=
  slices_Index_string_l0 N s v ((s.length : Nat) : Int) (k0 (-1))
    (fun (y6 : Int) =>
  k0 y6) N 0
noncomputable def slices_Index_string_D (N : Nat) : FD E0 := { f := 77, fn := Try.f77, q := ⟨[.t .str, .st], []⟩, loops := [{ cur := 0, live := [0, 1, 7, 8], out := fun | .exit 0 => ([], []) | .ret => ([4], []) | _ => ([], []), q := ⟨[.t .str, .st, .i .i64, .i .i64], []⟩, G := fun R K n a b c d => slices_Index_string_l0 N a b c (pK ⟨[], []⟩ (K (.exit 0))) (pK ⟨[.i .i64], []⟩ (K .ret)) n d, B := fun R K rec a b c d => slices_Index_string_l0_b N a b c (pK ⟨[], []⟩ (K (.exit 0))) (pK ⟨[.i .i64], []⟩ (K .ret)) (rec a b c) d }] }
noncomputable def slices_Index_string_S (N : Nat) : OC E0 := ⟨_, FD.ct e0 (slices_Index_string_D N) N (fun R k a b => slices_Index_string N a b (oK ⟨.i .i64, [], []⟩ k))⟩

noncomputable def slices_Reverse_Mark_l0_b {R : Type} (N : Nat)  (kp0 : (List Mark) → Option R) (rec : Int → Int → (List Mark) → Option R) (i_1 j_2 : Int) (s_3 : List Mark) : Option R :=
  if (decide (i_1 < j_2)) = true then
    (if (0 : Int) ≤ j_2 ∧ j_2 < (s_3.length : Int) then (match s_3[j_2.toNat]? with
    | some e4 => (if (0 : Int) ≤ i_1 ∧ i_1 < (s_3.length : Int) then (match s_3[i_1.toNat]? with
        | some e5 => (if (0 : Int) ≤ i_1 ∧ i_1 < (s_3.length : Int) then (match s_3[i_1.toNat]? with
            | some e6 => (if (0 : Int) ≤ j_2 ∧ j_2 < ((s_3.set i_1.toNat e4).length : Int) then (match (s_3.set i_1.toNat e4)[j_2.toNat]? with
                | some e7 => (rec (IntKind.wrap .i64 (i_1 + 1)) (IntKind.wrap .i64 (j_2 - 1)) ((s_3.set i_1.toNat e4).set j_2.toNat e5))
                | none => none) else none)
            | none => none) else none)
        | none => none) else none)
    | none => none) else none)
  else
    (kp0 s_3)
noncomputable def slices_Reverse_Mark_l0 {R : Type} (N : Nat)  (kp0 : (List Mark) → Option R) : Nat → Int → Int → (List Mark) → Option R
  | 0 => fun _ _ _ => none
  | n + 1 => fun i_1 j_2 s_3 => slices_Reverse_Mark_l0_b N  kp0 (slices_Reverse_Mark_l0 N  kp0 n) i_1 j_2 s_3
noncomputable def slices_Reverse_Mark {R : Type} (N : Nat) (s : List Mark) (k0 : (List Mark) → Option R) : Option R :=
  slices_Reverse_Mark_l0 N  (fun (y8 : List Mark) =>
  k0 y8) N 0 (IntKind.wrap .i64 (((s.length : Nat) : Int) - 1)) s
noncomputable def slices_Reverse_Mark_D (N : Nat) : FD E0 := { f := 51, fn := Try.f51, q := ⟨[.sw 0], [.rw .mark .own]⟩, loops := [{ cur := 0, live := [0, 2, 3], out := fun | .exit 0 => ([], []) | _ => ([], []), q := ⟨[.sw 0, .i .i64, .i .i64], [.rw .mark .own]⟩, G := fun R K n a b c => slices_Reverse_Mark_l0 N  (pK ⟨[], [.rw .mark .own]⟩ (K (.exit 0))) n a b c, B := fun R K rec a b c => slices_Reverse_Mark_l0_b N  (pK ⟨[], [.rw .mark .own]⟩ (K (.exit 0))) (rec ) a b c }] }
noncomputable def slices_Reverse_Mark_S (N : Nat) : OC E0 := ⟨_, FD.ct e0 (slices_Reverse_Mark_D N) N (fun R k a => slices_Reverse_Mark N a (oK ⟨.tp [], [.rw .mark .own], []⟩ k))⟩

noncomputable def effect_rows_marks_l0_b {R : Type} (N : Nat) (r_14 r_15 r_16 : List (List UInt8)) (r_17 : List Node) (r_18 : Bool) (o_19 : List Next) (o_20 : List Int) (o_21 : List (List Sc × Int × Nat)) (o_22 : Nat) (kp0 : (List Mark) → Option R) (rec : Int → (List Mark) → Option R) (row_13 : Int) (out_23 : List Mark) : Option R :=
  if (decide (row_13 > 0)) = true then
    (if (0 : Int) ≤ row_13 ∧ row_13 < (o_19.length : Int) then (match o_19[row_13.toNat]? with
    | some e24 => (if out_23.length + [e24.mark].length ≤ maxRow then (if (0 : Int) ≤ row_13 ∧ row_13 < (o_19.length : Int) then (match o_19[row_13.toNat]? with
    | some e25 => (rec e25.row (out_23 ++ [e24.mark]))
    | none => none) else none) else none)
    | none => none) else none)
  else
    (kp0 out_23)
noncomputable def effect_rows_marks_l0 {R : Type} (N : Nat) (r_14 r_15 r_16 : List (List UInt8)) (r_17 : List Node) (r_18 : Bool) (o_19 : List Next) (o_20 : List Int) (o_21 : List (List Sc × Int × Nat)) (o_22 : Nat) (kp0 : (List Mark) → Option R) : Nat → Int → (List Mark) → Option R
  | 0 => fun _ _ => none
  | n + 1 => fun row_13 out_23 => effect_rows_marks_l0_b N r_14 r_15 r_16 r_17 r_18 o_19 o_20 o_21 o_22 kp0 (effect_rows_marks_l0 N r_14 r_15 r_16 r_17 r_18 o_19 o_20 o_21 o_22 kp0 n) row_13 out_23
noncomputable def effect_rows_marks {R : Type} (N : Nat) (row : Int) (Vars Ports Timers : List (List UInt8)) (Nodes : List Node) (many : Bool) (l : List Next) (long : List Int) (known_L : List (List Sc × Int × Nat)) (known_cl : Nat) (k0 : (List Mark) → Option R) : Option R :=
  effect_rows_marks_l0 N Vars Ports Timers Nodes many l long known_L known_cl (fun (y26 : List Mark) =>
  slices_Reverse_Mark N y26 (fun (r27 : List Mark) =>
  k0 r27)) N row ([] : List Mark)
noncomputable def effect_rows_marks_D (N : Nat) : FD E0 := { f := 29, fn := Try.f29, q := ⟨[.p 0 0 0, .i .i64], [z1, .rw .next .app, .rw .int .app, z2]⟩, loops := [{ cur := 0, live := [0, 1, 5], fix := [(⟨5, []⟩, .row .mark .own)], out := fun | .exit 0 => ([5], []) | _ => ([], []), q := ⟨[.p 0 0 0, .i .i64, .sw 4], [z1, .rw .next .app, .rw .int .app, z2, .rw .mark .own]⟩, G := fun R K n a b c d e g h i j l m => effect_rows_marks_l0 N b c d e g h i j l (pK ⟨[.sw 4], [z1, .rw .next .app, .rw .int .app, z2, .rw .mark .own]⟩ (K (.exit 0)) b c d e g h i j l) n a m, B := fun R K rec a b c d e g h i j l m => effect_rows_marks_l0_b N b c d e g h i j l (pK ⟨[.sw 4], [z1, .rw .next .app, .rw .int .app, z2, .rw .mark .own]⟩ (K (.exit 0)) b c d e g h i j l) (fun a m => rec a b c d e g h i j l m) a m }], g := [slices_Reverse_Mark_S N], mode := fun | 25 => .own | 26 => .own | _ => .app }
noncomputable def effect_rows_marks_S (N : Nat) : OC E0 := ⟨_, FD.ctq e0 (effect_rows_marks_D N) N (fun R k a b c d e g h i j l => effect_rows_marks N a b c d e g h i j l (oQ ⟨.sw 4, [], [.rw .mark .own]⟩ k))⟩

noncomputable def effect_rows_then_l4_b {R : Type} (N : Nat) (v_79 : Int) (r_81 r_82 r_83 : List (List UInt8)) (r_84 : List Node) (r_85 : Bool) (o_86 : List Next) (o_87 : List Int) (out_90 : List (List Sc × Bool × Nat)) (out_91 : Nat) (ahead_92 : List (List Sc × Bool × Nat)) (ahead_93 : Nat) (o_94 : List (List Sc × Bool × Nat)) (o_95 : Nat) (marks_98 : List Mark) (v_99 : Nat) (v_100 : List Nat) (v_101 v_102 : Nat) (v_103 : List Nat) (v_104 : Nat) (kp0 : Int → (List (List Sc × Int × Nat)) → Nat → (List Next) → (List Int) → Option R) (rec : Int → Int → (List (List Sc × Int × Nat)) → Nat → (List Next) → (List Int) → Option R) (x_78 v_80 : Int) (o_88 : List (List Sc × Int × Nat)) (o_89 : Nat) (o_96 : List Next) (o_97 : List Int) : Option R :=
  if (decide (v_80 < v_79)) = true then
    (if (0 : Int) ≤ v_80 ∧ v_80 < (marks_98.length : Int) then (match marks_98[v_80.toNat]? with
    | some e105 => (effect_rows_more N x_78 e105.Port e105.Event r_81 r_82 r_83 r_84 r_85 o_96 o_97 o_88 o_89 (fun (r106 : Int) =>
  rec r106 (IntKind.wrap .i64 (v_80 + 1)) o_88 o_89 o_96 o_97) (fun (r107 : Int) (r108 : List (List Sc × Int × Nat)) (r109 : Nat) (r110 : List Next) (r111 : List Int) =>
  rec r107 (IntKind.wrap .i64 (v_80 + 1)) r108 r109 r110 r111))
    | none => none) else none)
  else
    (kp0 x_78 o_88 o_89 o_96 o_97)
noncomputable def effect_rows_then_l4 {R : Type} (N : Nat) (v_79 : Int) (r_81 r_82 r_83 : List (List UInt8)) (r_84 : List Node) (r_85 : Bool) (o_86 : List Next) (o_87 : List Int) (out_90 : List (List Sc × Bool × Nat)) (out_91 : Nat) (ahead_92 : List (List Sc × Bool × Nat)) (ahead_93 : Nat) (o_94 : List (List Sc × Bool × Nat)) (o_95 : Nat) (marks_98 : List Mark) (v_99 : Nat) (v_100 : List Nat) (v_101 v_102 : Nat) (v_103 : List Nat) (v_104 : Nat) (kp0 : Int → (List (List Sc × Int × Nat)) → Nat → (List Next) → (List Int) → Option R) : Nat → Int → Int → (List (List Sc × Int × Nat)) → Nat → (List Next) → (List Int) → Option R
  | 0 => fun _ _ _ _ _ _ => none
  | n + 1 => fun x_78 v_80 o_88 o_89 o_96 o_97 => effect_rows_then_l4_b N v_79 r_81 r_82 r_83 r_84 r_85 o_86 o_87 out_90 out_91 ahead_92 ahead_93 o_94 o_95 marks_98 v_99 v_100 v_101 v_102 v_103 v_104 kp0 (effect_rows_then_l4 N v_79 r_81 r_82 r_83 r_84 r_85 o_86 o_87 out_90 out_91 ahead_92 ahead_93 o_94 o_95 marks_98 v_99 v_100 v_101 v_102 v_103 v_104 kp0 n) x_78 v_80 o_88 o_89 o_96 o_97
noncomputable def effect_rows_then_l2_b {R : Type} (N : Nat) (r_120 r_121 r_122 : List (List UInt8)) (r_123 : List Node) (o_125 : List Next) (o_126 : List Int) (ahead_131 : List (List Sc × Bool × Nat)) (ahead_132 : Nat) (o_133 : List (List Sc × Bool × Nat)) (o_134 : Nat) (marks_137 : List Mark) (v_138 : Nat) (v_139 : List Nat) (v_140 v_141 : Nat) (kp0 kp1 : Bool → (List (List Sc × Int × Nat)) → Nat → (List (List Sc × Bool × Nat)) → Nat → (List Next) → (List Int) → Option R) (rec : Bool → (List (List Sc × Int × Nat)) → Nat → (List (List Sc × Bool × Nat)) → Nat → (List Next) → (List Int) → (List Nat) → Nat → Option R) (r_124 : Bool) (o_127 : List (List Sc × Int × Nat)) (o_128 : Nat) (out_129 : List (List Sc × Bool × Nat)) (out_130 : Nat) (o_135 : List Next) (o_136 : List Int) (v_142 : List Nat) (v_143 : Nat) : Option R :=
  nextC v_141 v_142 v_143 ahead_131 (kp0 r_124 o_127 o_128 out_129 out_130 o_135 o_136) fun n144 =>
  if ahead_132 = ahead_132 then (match findB n144.2.2 ahead_131 with
  | some en145 => (if r_124 = true then
    (kp1 r_124 o_127 o_128 out_129 out_130 o_135 o_136)
  else
    (effect_rows_then_l4 N ((marks_137.length : Nat) : Int) r_120 r_121 r_122 r_123 r_124 o_125 o_126 out_129 out_130 ahead_131 ahead_132 o_133 o_134 marks_137 v_138 v_139 v_140 v_141 (n144.2.2 :: v_142) ahead_132 (fun (y146 : Int) (y147 : List (List Sc × Int × Nat)) (y148 : Nat) (y149 : List Next) (y150 : List Int) =>
  effect_rows_put N y146 r_120 r_121 r_122 r_123 r_124 y149 y150 y147 y148 out_129 out_130 (fun (r151 : Bool) (r152 : List (List Sc × Bool × Nat)) (r153 : Nat) =>
  rec r151 y147 y148 r152 r153 y149 y150 (n144.2.2 :: v_142) ahead_132)) N (scI en145.1) 0 o_127 o_128 o_135 o_136))
  | none => none) else none
noncomputable def effect_rows_then_l2 {R : Type} (N : Nat) (r_120 r_121 r_122 : List (List UInt8)) (r_123 : List Node) (o_125 : List Next) (o_126 : List Int) (ahead_131 : List (List Sc × Bool × Nat)) (ahead_132 : Nat) (o_133 : List (List Sc × Bool × Nat)) (o_134 : Nat) (marks_137 : List Mark) (v_138 : Nat) (v_139 : List Nat) (v_140 v_141 : Nat) (kp0 kp1 : Bool → (List (List Sc × Int × Nat)) → Nat → (List (List Sc × Bool × Nat)) → Nat → (List Next) → (List Int) → Option R) : Nat → Bool → (List (List Sc × Int × Nat)) → Nat → (List (List Sc × Bool × Nat)) → Nat → (List Next) → (List Int) → (List Nat) → Nat → Option R
  | 0 => fun _ _ _ _ _ _ _ _ _ => none
  | n + 1 => fun r_124 o_127 o_128 out_129 out_130 o_135 o_136 v_142 v_143 => effect_rows_then_l2_b N r_120 r_121 r_122 r_123 o_125 o_126 ahead_131 ahead_132 o_133 o_134 marks_137 v_138 v_139 v_140 v_141 kp0 kp1 (effect_rows_then_l2 N r_120 r_121 r_122 r_123 o_125 o_126 ahead_131 ahead_132 o_133 o_134 marks_137 v_138 v_139 v_140 v_141 kp0 kp1 n) r_124 o_127 o_128 out_129 out_130 o_135 o_136 v_142 v_143
noncomputable def effect_rows_then_l0_b {R : Type} (N : Nat) (r_161 r_162 r_163 : List (List UInt8)) (r_164 : List Node) (o_166 : List Next) (o_167 : List Int) (ahead_172 : List (List Sc × Bool × Nat)) (ahead_173 : Nat) (o_174 : List (List Sc × Bool × Nat)) (o_175 v_178 : Nat) (kp0 kp1 : Bool → (List (List Sc × Int × Nat)) → Nat → (List (List Sc × Bool × Nat)) → Nat → (List Next) → (List Int) → Option R) (rec : Bool → (List (List Sc × Int × Nat)) → Nat → (List (List Sc × Bool × Nat)) → Nat → (List Next) → (List Int) → (List Nat) → Nat → Option R) (r_165 : Bool) (o_168 : List (List Sc × Int × Nat)) (o_169 : Nat) (out_170 : List (List Sc × Bool × Nat)) (out_171 : Nat) (o_176 : List Next) (o_177 : List Int) (v_179 : List Nat) (v_180 : Nat) : Option R :=
  nextC v_178 v_179 v_180 o_174 (kp0 r_165 o_168 o_169 out_170 out_171 o_176 o_177) fun n181 =>
  if o_175 = o_175 then (match findB n181.2.2 o_174 with
  | some en182 => (effect_rows_marks N (scI en182.1) r_161 r_162 r_163 r_164 r_165 o_176 o_177 o_168 o_169 (fun (r183 : List Mark) =>
  effect_rows_then_l2 N r_161 r_162 r_163 r_164 o_166 o_167 ahead_172 ahead_173 o_174 o_175 r183 v_178 (n181.2.2 :: v_179) o_175 ahead_173 (fun (y184 : Bool) (y185 : List (List Sc × Int × Nat)) (y186 : Nat) (y187 : List (List Sc × Bool × Nat)) (y188 : Nat) (y189 : List Next) (y190 : List Int) =>
  rec y184 y185 y186 y187 y188 y189 y190 (n181.2.2 :: v_179) o_175)
    (fun (y191 : Bool) (y192 : List (List Sc × Int × Nat)) (y193 : Nat) (y194 : List (List Sc × Bool × Nat)) (y195 : Nat) (y196 : List Next) (y197 : List Int) =>
  kp1 y191 y192 y193 y194 y195 y196 y197) N r_165 o_168 o_169 out_170 out_171 o_176 o_177 [] ahead_173))
  | none => none) else none
noncomputable def effect_rows_then_l0 {R : Type} (N : Nat) (r_161 r_162 r_163 : List (List UInt8)) (r_164 : List Node) (o_166 : List Next) (o_167 : List Int) (ahead_172 : List (List Sc × Bool × Nat)) (ahead_173 : Nat) (o_174 : List (List Sc × Bool × Nat)) (o_175 v_178 : Nat) (kp0 kp1 : Bool → (List (List Sc × Int × Nat)) → Nat → (List (List Sc × Bool × Nat)) → Nat → (List Next) → (List Int) → Option R) : Nat → Bool → (List (List Sc × Int × Nat)) → Nat → (List (List Sc × Bool × Nat)) → Nat → (List Next) → (List Int) → (List Nat) → Nat → Option R
  | 0 => fun _ _ _ _ _ _ _ _ _ => none
  | n + 1 => fun r_165 o_168 o_169 out_170 out_171 o_176 o_177 v_179 v_180 => effect_rows_then_l0_b N r_161 r_162 r_163 r_164 o_166 o_167 ahead_172 ahead_173 o_174 o_175 v_178 kp0 kp1 (effect_rows_then_l0 N r_161 r_162 r_163 r_164 o_166 o_167 ahead_172 ahead_173 o_174 o_175 v_178 kp0 kp1 n) r_165 o_168 o_169 out_170 out_171 o_176 o_177 v_179 v_180
noncomputable def effect_rows_then {R : Type} (N : Nat) (Vars Ports Timers : List (List UInt8)) (Nodes : List Node) (many : Bool) (l : List Next) (long : List Int) (known_L : List (List Sc × Int × Nat)) (known_cl : Nat) (out_L : List (List Sc × Bool × Nat)) (out_cl : Nat) (ahead_L : List (List Sc × Bool × Nat)) (ahead_cl : Nat) (behind_L : List (List Sc × Bool × Nat)) (behind_cl : Nat) (k0 : Bool → (List (List Sc × Int × Nat)) → Nat → (List (List Sc × Bool × Nat)) → Nat → (List Next) → (List Int) → Option R) : Option R :=
  effect_rows_then_l0 N Vars Ports Timers Nodes l long ahead_L ahead_cl behind_L behind_cl behind_cl (fun (y198 : Bool) (y199 : List (List Sc × Int × Nat)) (y200 : Nat) (y201 : List (List Sc × Bool × Nat)) (y202 : Nat) (y203 : List Next) (y204 : List Int) =>
  k0 y198 y199 y200 y201 y202 y203 y204)
    (fun (y205 : Bool) (y206 : List (List Sc × Int × Nat)) (y207 : Nat) (y208 : List (List Sc × Bool × Nat)) (y209 : Nat) (y210 : List Next) (y211 : List Int) =>
  k0 y205 y206 y207 y208 y209 y210 y211) N many known_L known_cl out_L out_cl l long [] behind_cl
noncomputable def effect_rows_then_D (N : Nat) : FD E0 := { f := 109, fn := Try.f109, q := ⟨[.p 0 0 0, .m 4, .m 5, .m 6], [z1, .rw .next .app, .rw .int .app, z2, .mx false [.int .i64] false .bool, .mx false [.int .i64] false .bool, .mx false [.int .i64] false .bool]⟩, loops := [{ cur := 4, live := [0, 1, 2, 9, 10, 14, 23, 32, 33, 34], fix := [(⟨0, [0]⟩, .fresh .next .app), (⟨0, [1]⟩, .fresh .int .app)], out := fun | .exit 4 => ([0, 1, 2, 9, 10, 14, 23], []) | _ => ([], []), q := ⟨[.p 0 0 0, .m 4, .m 5, .sw 9, .i .i64, .p 10 0 0, .p 11 0 0, .sw 9, .i .i64, .i .i64], [z4, .rw .next .ro, .rw .int .ro, z2, .mx false [.int .i64] false .bool, .mx false [.int .i64] false .bool, .mx false [.int .i64] false .bool, .rw .next .app, .rw .int .app, .rw .mark .own, .it 6, .it 5]⟩, G := fun R K n a b c d e g h i j l m o p q s t u v w x y z a1 b1 c1 d1 e1 => effect_rows_then_l4 N b d e g h i j l p q s t u v y z a1 b1 c1 d1 e1 (fun g1 h1 i1 j1 l1 => pK ⟨[.p 0 0 0, .m 4, .m 5, .sw 9, .i .i64, .p 10 0 0, .p 11 0 0], [z4, .rw .next .ro, .rw .int .ro, z2, .mx false [.int .i64] false .bool, .mx false [.int .i64] false .bool, .mx false [.int .i64] false .bool, .rw .next .app, .rw .int .app, .rw .mark .own, .it 6, .it 5]⟩ (K (.exit 4)) g1 d e g h i j l h1 i1 p q s t u v j1 l1 y z a1 b1 c1 d1 e1) n a c m o w x, B := fun R K rec a b c d e g h i j l m o p q s t u v w x y z a1 b1 c1 d1 e1 => effect_rows_then_l4_b N b d e g h i j l p q s t u v y z a1 b1 c1 d1 e1 (fun g1 h1 i1 j1 l1 => pK ⟨[.p 0 0 0, .m 4, .m 5, .sw 9, .i .i64, .p 10 0 0, .p 11 0 0], [z4, .rw .next .ro, .rw .int .ro, z2, .mx false [.int .i64] false .bool, .mx false [.int .i64] false .bool, .mx false [.int .i64] false .bool, .rw .next .app, .rw .int .app, .rw .mark .own, .it 6, .it 5]⟩ (K (.exit 4)) g1 d e g h i j l h1 i1 p q s t u v j1 l1 y z a1 b1 c1 d1 e1) (fun a c m o w x => rec a b c d e g h i j l m o p q s t u v w x y z a1 b1 c1 d1 e1) a c m o w x }, { cur := 2, live := [0, 1, 2, 9, 14, 23], fix := [(⟨0, [0]⟩, .fresh .next .app), (⟨0, [1]⟩, .fresh .int .app)], out := fun | .exit 2 => ([0, 1, 2, 14], []) | .ret => ([], []) | _ => ([], []), q := ⟨[.p 0 0 0, .m 4, .m 5, .sw 9, .p 10 0 0, .p 11 0 0], [z4, .rw .next .ro, .rw .int .ro, z2, .mx false [.int .i64] false .bool, .mx false [.int .i64] false .bool, .mx false [.int .i64] false .bool, .rw .next .app, .rw .int .app, .rw .mark .own, .it 6, .it 5]⟩, G := fun R K n a b c d e g h i j l m o p q s t u v w x y z a1 b1 => effect_rows_then_l2 N a b c d g h o p q s v w x y z (fun c1 d1 e1 g1 h1 i1 j1 => pK ⟨[.p 0 0 0, .m 4, .m 5, .p 9 0 0], [z4, .rw .next .ro, .rw .int .ro, z2, .mx false [.int .i64] false .bool, .mx false [.int .i64] false .bool, .mx false [.int .i64] false .bool, .rw .next .app, .rw .int .app, .it 6]⟩ (K (.exit 2)) a b c d c1 g h d1 e1 g1 h1 o p q s i1 j1 w x y) (fun c1 d1 e1 g1 h1 => pK ⟨[], [z4, .rw .next .ro, .rw .int .ro, z2, .mx false [.int .i64] false .bool, .mx false [.int .i64] false .bool, .mx false [.int .i64] false .bool, .rw .next .app, .rw .int .app]⟩ (K .ret) a b c d c1 g h d1 e1 g1 h1 o p q s) n e i j l m t u a1 b1, B := fun R K rec a b c d e g h i j l m o p q s t u v w x y z a1 b1 => effect_rows_then_l2_b N a b c d g h o p q s v w x y z (fun c1 d1 e1 g1 h1 i1 j1 => pK ⟨[.p 0 0 0, .m 4, .m 5, .p 9 0 0], [z4, .rw .next .ro, .rw .int .ro, z2, .mx false [.int .i64] false .bool, .mx false [.int .i64] false .bool, .mx false [.int .i64] false .bool, .rw .next .app, .rw .int .app, .it 6]⟩ (K (.exit 2)) a b c d c1 g h d1 e1 g1 h1 o p q s i1 j1 w x y) (fun c1 d1 e1 g1 h1 => pK ⟨[], [z4, .rw .next .ro, .rw .int .ro, z2, .mx false [.int .i64] false .bool, .mx false [.int .i64] false .bool, .mx false [.int .i64] false .bool, .rw .next .app, .rw .int .app]⟩ (K .ret) a b c d c1 g h d1 e1 g1 h1 o p q s) (fun e i j l m t u a1 b1 => rec a b c d e g h i j l m o p q s t u v w x y z a1 b1) e i j l m t u a1 b1 }, { cur := 0, live := [0, 1, 2, 14], fix := [(⟨0, [0]⟩, .fresh .next .app), (⟨0, [1]⟩, .fresh .int .app)], out := fun | .exit 0 => ([], []) | .ret => ([], []) | _ => ([], []), q := ⟨[.p 0 0 0, .m 4, .m 5, .p 9 0 0], [z4, .rw .next .ro, .rw .int .ro, z2, .mx false [.int .i64] false .bool, .mx false [.int .i64] false .bool, .mx false [.int .i64] false .bool, .rw .next .app, .rw .int .app, .it 6]⟩, G := fun R K n a b c d e g h i j l m o p q s t u v w x => effect_rows_then_l0 N a b c d g h o p q s v (fun y z a1 b1 c1 => pK ⟨[], [z4, .rw .next .ro, .rw .int .ro, z2, .mx false [.int .i64] false .bool, .mx false [.int .i64] false .bool, .mx false [.int .i64] false .bool, .rw .next .app, .rw .int .app]⟩ (K (.exit 0)) a b c d y g h z a1 b1 c1 o p q s) (fun y z a1 b1 c1 => pK ⟨[], [z4, .rw .next .ro, .rw .int .ro, z2, .mx false [.int .i64] false .bool, .mx false [.int .i64] false .bool, .mx false [.int .i64] false .bool, .rw .next .app, .rw .int .app]⟩ (K .ret) a b c d y g h z a1 b1 c1 o p q s) n e i j l m t u w x, B := fun R K rec a b c d e g h i j l m o p q s t u v w x => effect_rows_then_l0_b N a b c d g h o p q s v (fun y z a1 b1 c1 => pK ⟨[], [z4, .rw .next .ro, .rw .int .ro, z2, .mx false [.int .i64] false .bool, .mx false [.int .i64] false .bool, .mx false [.int .i64] false .bool, .rw .next .app, .rw .int .app]⟩ (K (.exit 0)) a b c d y g h z a1 b1 c1 o p q s) (fun y z a1 b1 c1 => pK ⟨[], [z4, .rw .next .ro, .rw .int .ro, z2, .mx false [.int .i64] false .bool, .mx false [.int .i64] false .bool, .mx false [.int .i64] false .bool, .rw .next .app, .rw .int .app]⟩ (K .ret) a b c d y g h z a1 b1 c1 o p q s) (fun e i j l m t u w x => rec a b c d e g h i j l m o p q s t u v w x) e i j l m t u w x }], g := [effect_rows_marks_S N, effect_rows_put_S N, effect_rows_more_S N], nd := true }
noncomputable def effect_rows_then_S (N : Nat) : OCM E0 := ⟨_, FD.ctm e0 (effect_rows_then_D N) N (fun R k a b c d e g h i j l m o p q s => effect_rows_then N a b c d e g h i j l m o p q s (fun t u v w x => oK ⟨.tp [], [z4, .rw .next .ro, .rw .int .ro, z2, .mx false [.int .i64] false .bool, .mx false [.int .i64] false .bool, .mx false [.int .i64] false .bool], [.rw .next .app, .rw .int .app]⟩ k a b c d t g h u v w x o p q s))⟩

def y1 : Sh S := .ag [.i .i64, .st, .st, .t .expr, .i .i64, .t .act, .t .act, .i .i64]
end Ef
