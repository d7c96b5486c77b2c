/- E5_1: a part of the proof of EffectErrs: lemmas on the evaluator and on the functions that the law reaches. -/
import Derived.Test.YtfpfmibcnldepaaEK
set_option maxRecDepth 100000
set_option linter.unusedVariables false
namespace Ef
open Go TE Go.Proofs
def y0 : Sh S := .ag [.t .str, .t .str, .t .str, .t .str]
def y1 : Sh S := .ag [.t .str, .t .str, .t .str, .t .node]
noncomputable def l30_named {R : Type} (N : Nat)  (k0 : (List (List UInt8)) → (List (List UInt8)) → (List (List UInt8)) → (List (List UInt8)) → (List (List UInt8)) → (List (List UInt8)) → (List (List UInt8)) → (List Node) → (List (List UInt8)) → (List (List UInt8)) → (List (List UInt8)) → (List Node) → Option R) : Option R :=
  k0 ([[120], [121]]) ([[112], [113]]) ([[116]]) ([] : List (List UInt8)) ([[120], [121]]) ([[112], [113]]) ([[116]]) ([] : List Node) ([[120], [121]]) ([[112], [113]]) ([[116]]) ([] : List Node)
noncomputable def l30_named_D (N : Nat) : FD E0 := { f := 8, fn := Try.f8, q := ⟨[], []⟩, exit := [(⟨0, [0]⟩, .tree .str), (⟨0, [1]⟩, .tree .str), (⟨0, [2]⟩, .tree .str), (⟨0, [3]⟩, .tree .str), (⟨1, [0]⟩, .tree .str), (⟨1, [1]⟩, .tree .str), (⟨1, [2]⟩, .tree .str), (⟨1, [3]⟩, .tree .node), (⟨2, [0]⟩, .tree .str), (⟨2, [1]⟩, .tree .str), (⟨2, [2]⟩, .tree .str), (⟨2, [3]⟩, .tree .node)] }
noncomputable def l30_named_S (N : Nat) : OC E0 := ⟨_, FD.ct e0 (l30_named_D N) N (fun R k => l30_named N (oK ⟨.tp [y0, y1, y1], [], []⟩ k))⟩

noncomputable def r37_Place {R : Type} (N : Nat) (v n_ : Int) (k0 : Int → Option R) : Option R :=
  if n_ = 0 then none else (if (decide ((Int.tmod v n_) < 0)) = true then
    (k0 (IntKind.wrap .i64 ((Int.tmod v n_) + n_)))
  else
    (k0 (Int.tmod v n_)))
noncomputable def r37_Place_D (N : Nat) : FD E0 := { f := 10, fn := Try.f10, q := ⟨[.i .i64, .i .i64], []⟩ }
noncomputable def r37_Place_S (N : Nat) : OC E0 := ⟨_, FD.ct e0 (r37_Place_D N) N (fun R k a b => r37_Place N a b (oK ⟨.i .i64, [], []⟩ k))⟩

def y2 : Sh S := .ag [.i .i64, .i .i64, .st, .t .expr, .i .i64]
structure Fam_r30_errs where
  r30_errs : (R : Type) → Int → Int → (List UInt8) → (List Expr) → Int → (Bool → Option R) → Option R

def r30_errs_q : Pat S := ⟨[y2], []⟩
noncomputable def r30_errs_C (F : Fam_r30_errs) : Ct S := ⟨46, r30_errs_q, fun R k a b c d e => F.r30_errs R a b c d e (oK ⟨.b, [], []⟩ k)⟩
structure Fam_r30_errs_ok (F : Fam_r30_errs) : Prop where
  r30_errs : (r30_errs_C F).ok E0

def z0 : ShO S := .bx [.i .i64, .i .i64, .st, .t .expr, .i .i64]
noncomputable def r30_errs_l0_b (F : Fam_r30_errs) {R : Type} (N : Nat) (e_4 e_5 : Int) (e_6 : List UInt8) (e_7 : List Expr) (e_8 : Int) (kp0 : Option R) (kp1 : Bool → Option R) (rec : Int → Option R) (i_3 : Int) : Option R :=
  if (decide (i_3 < ((e_7.length : Nat) : Int))) = true then
    ((at? e_7 i_3).bind fun e9 =>
  F.r30_errs _ e9.Kind e9.N e9.Name e9.Kids e9.At (fun (r10 : Bool) =>
  if r10 = true then
    (kp1 true)
  else
    (rec (IntKind.wrap .i64 (i_3 + 1)))))
  else
    (kp0 )
noncomputable def r30_errs_l0 (F : Fam_r30_errs) {R : Type} (N : Nat) (e_4 e_5 : Int) (e_6 : List UInt8) (e_7 : List Expr) (e_8 : Int) (kp0 : Option R) (kp1 : Bool → Option R) : Nat → Int → Option R
  | 0 => fun _ => none
  | n + 1 => fun i_3 => r30_errs_l0_b F N e_4 e_5 e_6 e_7 e_8 kp0 kp1 (r30_errs_l0 F N e_4 e_5 e_6 e_7 e_8 kp0 kp1 n) i_3
noncomputable def r30_errs_d (F : Fam_r30_errs) {R : Type} (N : Nat) (Kind N_ : Int) (Name : List UInt8) (Kids : List Expr) (At : Int) (k0 : Bool → Option R) : Option R :=
  (ifB (Kind == 5) false ((ifB (decide (Kind ≥ 7)) true (some (decide (Kind ≤ 11))) (some false)).bind fun c1 =>
  some c1) (some true)).bind fun c2 =>
  if c2 = true then
    (k0 true)
  else
    (r30_errs_l0 F N Kind N_ Name Kids At (k0 false)
    (fun (y11 : Bool) =>
  k0 y11) N 0)
noncomputable def r30_errs_D (F : Fam_r30_errs) (hF : Fam_r30_errs_ok F) (N : Nat) : FD E0 := { f := 46, fn := Try.f46, q := r30_errs_q, loops := [{ cur := 0, live := [1, 3], out := fun | .exit 0 => ([], []) | .ret => ([2], []) | _ => ([], []), q := ⟨[.p 0 0 0, .i .i64], [z0]⟩, G := fun R K n a b c d e g => r30_errs_l0 F N b c d e g (pK ⟨[], []⟩ (K (.exit 0))) (pK ⟨[.b], []⟩ (K .ret)) n a, B := fun R K rec a b c d e g => r30_errs_l0_b F N b c d e g (pK ⟨[], []⟩ (K (.exit 0))) (pK ⟨[.b], []⟩ (K .ret)) (fun a => rec a b c d e g) a }], g := [⟨r30_errs_C F, hF.r30_errs⟩] }
theorem r30_errs_okF (F : Fam_r30_errs) (hF : Fam_r30_errs_ok F) (N : Nat) : Ct.ok E0 ⟨(r30_errs_D F hF N).f, (r30_errs_D F hF N).q, fun R k a b c d e => r30_errs_d F N a b c d e (oK ⟨.b, [], []⟩ k)⟩ := FD.ct e0 (r30_errs_D F hF N) N (fun R k a b c d e => r30_errs_d F N a b c d e (oK ⟨.b, [], []⟩ k))

noncomputable def Fam_r30_errs_next (F : Fam_r30_errs) (N : Nat) : Fam_r30_errs where
  r30_errs := fun R Kind N_ Name Kids At k0 => r30_errs_d F N Kind N_ Name Kids At k0
noncomputable def Fam_r30_errs_at (N : Nat) : Nat → Fam_r30_errs
  | 0 => { r30_errs := fun _ _ _ _ _ _ _ => none }
  | d + 1 => Fam_r30_errs_next (Fam_r30_errs_at N d) N
theorem Fam_r30_errs_at_ok (N : Nat) : ∀ d, Fam_r30_errs_ok (Fam_r30_errs_at N d)
  | 0 => { r30_errs := Ct.ok_none }
  | d + 1 => { r30_errs := r30_errs_okF _ (Fam_r30_errs_at_ok N d) N }
noncomputable def r30_errs {R : Type} (N : Nat) (Kind N_ : Int) (Name : List UInt8) (Kids : List Expr) (At : Int) (k0 : Bool → Option R) : Option R := (Fam_r30_errs_at N N).r30_errs R Kind N_ Name Kids At k0
noncomputable def r30_errs_S (N : Nat) : OC E0 := ⟨r30_errs_C (Fam_r30_errs_at N N), (Fam_r30_errs_at_ok N N).r30_errs⟩

structure Fam_effect_may where
  effect_may : (R : Type) → Int → Int → (List UInt8) → (List Expr) → Int → (Bool → Option R) → Option R
  slices_ContainsFunc_Expr : (R : Type) → (List Expr) → (Bool → Option R) → Option R
  slices_IndexFunc_Expr : (R : Type) → (List Expr) → (Int → Option R) → Option R

def effect_may_q : Pat S := ⟨[y2], []⟩
noncomputable def effect_may_C (F : Fam_effect_may) : Ct S := ⟨40, effect_may_q, fun R k a b c d e => F.effect_may R a b c d e (oK ⟨.b, [], []⟩ k)⟩
def slices_ContainsFunc_Expr_q : Pat S := ⟨[.t .expr, .fn 40 []], []⟩
noncomputable def slices_ContainsFunc_Expr_C (F : Fam_effect_may) : Ct S := ⟨62, slices_ContainsFunc_Expr_q, fun R k a => F.slices_ContainsFunc_Expr R a (oK ⟨.b, [], []⟩ k)⟩
def slices_IndexFunc_Expr_q : Pat S := ⟨[.t .expr, .fn 40 []], []⟩
noncomputable def slices_IndexFunc_Expr_C (F : Fam_effect_may) : Ct S := ⟨97, slices_IndexFunc_Expr_q, fun R k a => F.slices_IndexFunc_Expr R a (oK ⟨.i .i64, [], []⟩ k)⟩
structure Fam_effect_may_ok (F : Fam_effect_may) : Prop where
  effect_may : (effect_may_C F).ok E0
  slices_ContainsFunc_Expr : (slices_ContainsFunc_Expr_C F).ok E0
  slices_IndexFunc_Expr : (slices_IndexFunc_Expr_C F).ok E0

noncomputable def effect_may_c9 (F : Fam_effect_may) {R : Type} (N : Nat) (e_1 e_2 : Int) (e_3 : List UInt8) (e_4 : List Expr) (e_5 : Int) (kp0 : Bool → Option R) : Option R :=
  F.slices_ContainsFunc_Expr _ e_4 (fun (r6 : Bool) =>
  kp0 r6)
noncomputable def effect_may_d (F : Fam_effect_may) {R : Type} (N : Nat) (Kind N_ : Int) (Name : List UInt8) (Kids : List Expr) (At : Int) (k0 : Bool → Option R) : Option R :=
  if (Kind == 5) = true then
    (if (Kind == 5) = true then
      (k0 true)
    else
      (effect_may_c9 F N Kind N_ Name Kids At (fun (y7 : Bool) =>
      k0 y7)))
  else
    (if (Kind == 7) = true then
      (if (Kind == 7) = true then
        (k0 true)
      else
        (effect_may_c9 F N Kind N_ Name Kids At (fun (y8 : Bool) =>
        k0 y8)))
    else
      (if (Kind == 8) = true then
        (if (Kind == 8) = true then
          (k0 true)
        else
          (effect_may_c9 F N Kind N_ Name Kids At (fun (y9 : Bool) =>
          k0 y9)))
      else
        (if (Kind == 9) = true then
          (if (Kind == 9) = true then
            (k0 true)
          else
            (effect_may_c9 F N Kind N_ Name Kids At (fun (y10 : Bool) =>
            k0 y10)))
        else
          (if (Kind == 10) = true then
            (if (Kind == 10) = true then
              (k0 true)
            else
              (effect_may_c9 F N Kind N_ Name Kids At (fun (y11 : Bool) =>
              k0 y11)))
          else
            (if (Kind == 11) = true then
              (k0 true)
            else
              (effect_may_c9 F N Kind N_ Name Kids At (fun (y12 : Bool) =>
              k0 y12)))))))
noncomputable def effect_may_D (F : Fam_effect_may) (hF : Fam_effect_may_ok F) (N : Nat) : FD E0 := { f := 40, fn := Try.f40, q := effect_may_q, cuts := [{ key := 9, live := [1], out := fun | .ret => ([2], []) | _ => ([], []), q := ⟨[.p 0 0 0], [z0]⟩, G := fun R K a b c d e => effect_may_c9 F N a b c d e (pK ⟨[.b], []⟩ (K .ret)) }], g := [⟨slices_ContainsFunc_Expr_C F, hF.slices_ContainsFunc_Expr⟩] }
theorem effect_may_okF (F : Fam_effect_may) (hF : Fam_effect_may_ok F) (N : Nat) : Ct.ok E0 ⟨(effect_may_D F hF N).f, (effect_may_D F hF N).q, fun R k a b c d e => effect_may_d F N a b c d e (oK ⟨.b, [], []⟩ k)⟩ := FD.ct e0 (effect_may_D F hF N) N (fun R k a b c d e => effect_may_d F N a b c d e (oK ⟨.b, [], []⟩ k))

noncomputable def slices_ContainsFunc_Expr_d (F : Fam_effect_may) {R : Type} (N : Nat) (s : List Expr) (k0 : Bool → Option R) : Option R :=
  F.slices_IndexFunc_Expr _ s (fun (r1 : Int) =>
  k0 (decide (r1 ≥ 0)))
noncomputable def slices_ContainsFunc_Expr_D (F : Fam_effect_may) (hF : Fam_effect_may_ok F) (N : Nat) : FD E0 := { f := 62, fn := Try.f62, q := slices_ContainsFunc_Expr_q, g := [⟨slices_IndexFunc_Expr_C F, hF.slices_IndexFunc_Expr⟩] }
theorem slices_ContainsFunc_Expr_okF (F : Fam_effect_may) (hF : Fam_effect_may_ok F) (N : Nat) : Ct.ok E0 ⟨(slices_ContainsFunc_Expr_D F hF N).f, (slices_ContainsFunc_Expr_D F hF N).q, fun R k a => slices_ContainsFunc_Expr_d F N a (oK ⟨.b, [], []⟩ k)⟩ := FD.ct e0 (slices_ContainsFunc_Expr_D F hF N) N (fun R k a => slices_ContainsFunc_Expr_d F N a (oK ⟨.b, [], []⟩ k))

noncomputable def slices_IndexFunc_Expr_l0_b (F : Fam_effect_may) {R : Type} (N : Nat) (s_1 : List Expr) (v_2 : Int) (kp0 : Option R) (kp1 : Int → Option R) (rec : Int → Option R) (v_3 : Int) : Option R :=
  if (decide (v_3 < v_2)) = true then
    ((at? s_1 v_3).bind fun e4 =>
  F.effect_may _ e4.Kind e4.N e4.Name e4.Kids e4.At (fun (r5 : Bool) =>
  if r5 = true then
    (kp1 v_3)
  else
    (rec (IntKind.wrap .i64 (v_3 + 1)))))
  else
    (kp0 )
noncomputable def slices_IndexFunc_Expr_l0 (F : Fam_effect_may) {R : Type} (N : Nat) (s_1 : List Expr) (v_2 : Int) (kp0 : Option R) (kp1 : Int → Option R) : Nat → Int → Option R
  | 0 => fun _ => none
  | n + 1 => fun v_3 => slices_IndexFunc_Expr_l0_b F N s_1 v_2 kp0 kp1 (slices_IndexFunc_Expr_l0 F N s_1 v_2 kp0 kp1 n) v_3
noncomputable def slices_IndexFunc_Expr_d (F : Fam_effect_may) {R : Type} (N : Nat) (s : List Expr) (k0 : Int → Option R) : Option R :=
  slices_IndexFunc_Expr_l0 F N s ((s.length : Nat) : Int) (k0 (-1))
    (fun (y6 : Int) =>
  k0 y6) N 0
noncomputable def slices_IndexFunc_Expr_D (F : Fam_effect_may) (hF : Fam_effect_may_ok F) (N : Nat) : FD E0 := { f := 97, fn := Try.f97, q := slices_IndexFunc_Expr_q, loops := [{ cur := 0, live := [0, 1, 7, 8], out := fun | .exit 0 => ([], []) | .ret => ([4], []) | _ => ([], []), q := ⟨[.t .expr, .fn 40 [], .i .i64, .i .i64], []⟩, G := fun R K n a b c => slices_IndexFunc_Expr_l0 F N a b (pK ⟨[], []⟩ (K (.exit 0))) (pK ⟨[.i .i64], []⟩ (K .ret)) n c, B := fun R K rec a b c => slices_IndexFunc_Expr_l0_b F N a b (pK ⟨[], []⟩ (K (.exit 0))) (pK ⟨[.i .i64], []⟩ (K .ret)) (rec a b) c }], g := [⟨effect_may_C F, hF.effect_may⟩] }
theorem slices_IndexFunc_Expr_okF (F : Fam_effect_may) (hF : Fam_effect_may_ok F) (N : Nat) : Ct.ok E0 ⟨(slices_IndexFunc_Expr_D F hF N).f, (slices_IndexFunc_Expr_D F hF N).q, fun R k a => slices_IndexFunc_Expr_d F N a (oK ⟨.i .i64, [], []⟩ k)⟩ := FD.ct e0 (slices_IndexFunc_Expr_D F hF N) N (fun R k a => slices_IndexFunc_Expr_d F N a (oK ⟨.i .i64, [], []⟩ k))

noncomputable def Fam_effect_may_next (F : Fam_effect_may) (N : Nat) : Fam_effect_may where
  effect_may := fun R Kind N_ Name Kids At k0 => effect_may_d F N Kind N_ Name Kids At k0
  slices_ContainsFunc_Expr := fun R s k0 => slices_ContainsFunc_Expr_d F N s k0
  slices_IndexFunc_Expr := fun R s k0 => slices_IndexFunc_Expr_d F N s k0
noncomputable def Fam_effect_may_at (N : Nat) : Nat → Fam_effect_may
  | 0 => { effect_may := fun _ _ _ _ _ _ _ => none, slices_ContainsFunc_Expr := fun _ _ _ => none, slices_IndexFunc_Expr := fun _ _ _ => none }
  | d + 1 => Fam_effect_may_next (Fam_effect_may_at N d) N
theorem Fam_effect_may_at_ok (N : Nat) : ∀ d, Fam_effect_may_ok (Fam_effect_may_at N d)
  | 0 => { effect_may := Ct.ok_none, slices_ContainsFunc_Expr := Ct.ok_none, slices_IndexFunc_Expr := Ct.ok_none }
  | d + 1 => { effect_may := effect_may_okF _ (Fam_effect_may_at_ok N d) N, slices_ContainsFunc_Expr := slices_ContainsFunc_Expr_okF _ (Fam_effect_may_at_ok N d) N, slices_IndexFunc_Expr := slices_IndexFunc_Expr_okF _ (Fam_effect_may_at_ok N d) N }
noncomputable def effect_may {R : Type} (N : Nat) (Kind N_ : Int) (Name : List UInt8) (Kids : List Expr) (At : Int) (k0 : Bool → Option R) : Option R := (Fam_effect_may_at N N).effect_may R Kind N_ Name Kids At k0
noncomputable def effect_may_S (N : Nat) : OC E0 := ⟨effect_may_C (Fam_effect_may_at N N), (Fam_effect_may_at_ok N N).effect_may⟩
noncomputable def slices_ContainsFunc_Expr {R : Type} (N : Nat) (s : List Expr) (k0 : Bool → Option R) : Option R := (Fam_effect_may_at N N).slices_ContainsFunc_Expr R s k0
noncomputable def slices_IndexFunc_Expr {R : Type} (N : Nat) (s : List Expr) (k0 : Int → Option R) : Option R := (Fam_effect_may_at N N).slices_IndexFunc_Expr R s k0
noncomputable def r16_place_l0_b {R : Type} (N : Nat) (l_1 : List (List UInt8)) (s_2 : List UInt8) (kp0 : Option R) (kp1 : Int → Option R) (rec : Int → Option R) (i_3 : Int) : Option R :=
  if (decide (i_3 < ((l_1.length : Nat) : Int))) = true then
    ((at? l_1 i_3).bind fun e4 =>
  if (e4 == s_2) = true then
    (kp1 i_3)
  else
    (rec (IntKind.wrap .i64 (i_3 + 1))))
  else
    (kp0 )
noncomputable def r16_place_l0 {R : Type} (N : Nat) (l_1 : List (List UInt8)) (s_2 : List UInt8) (kp0 : Option R) (kp1 : Int → Option R) : Nat → Int → Option R
  | 0 => fun _ => none
  | n + 1 => fun i_3 => r16_place_l0_b N l_1 s_2 kp0 kp1 (r16_place_l0 N l_1 s_2 kp0 kp1 n) i_3
noncomputable def r16_place {R : Type} (N : Nat) (l : List (List UInt8)) (s : List UInt8) (k0 : Int → Option R) : Option R :=
  r16_place_l0 N l s (k0 (-1))
    (fun (y5 : Int) =>
  k0 y5) N 0
noncomputable def r16_place_D (N : Nat) : FD E0 := { f := 70, fn := Try.f70, q := ⟨[.t .str, .st], []⟩, loops := [{ cur := 0, live := [0, 1, 5], out := fun | .exit 0 => ([], []) | .ret => ([4], []) | _ => ([], []), q := ⟨[.t .str, .st, .i .i64], []⟩, G := fun R K n a b c => r16_place_l0 N a b (pK ⟨[], []⟩ (K (.exit 0))) (pK ⟨[.i .i64], []⟩ (K .ret)) n c, B := fun R K rec a b c => r16_place_l0_b N a b (pK ⟨[], []⟩ (K (.exit 0))) (pK ⟨[.i .i64], []⟩ (K .ret)) (rec a b) c }] }
noncomputable def r16_place_S (N : Nat) : OC E0 := ⟨_, FD.ct e0 (r16_place_D N) N (fun R k a b => r16_place N a b (oK ⟨.i .i64, [], []⟩ k))⟩

noncomputable def r13_Find_l0_b {R : Type} (N : Nat) (l_1 : List Node) (name_2 : List UInt8) (kp0 : Option R) (kp1 : Int → Option R) (rec : Int → Option R) (i_3 : Int) : Option R :=
  if (decide (i_3 < ((l_1.length : Nat) : Int))) = true then
    ((at? l_1 i_3).bind fun e4 =>
  if (e4.Name == name_2) = true then
    (kp1 i_3)
  else
    (rec (IntKind.wrap .i64 (i_3 + 1))))
  else
    (kp0 )
noncomputable def r13_Find_l0 {R : Type} (N : Nat) (l_1 : List Node) (name_2 : List UInt8) (kp0 : Option R) (kp1 : Int → Option R) : Nat → Int → Option R
  | 0 => fun _ => none
  | n + 1 => fun i_3 => r13_Find_l0_b N l_1 name_2 kp0 kp1 (r13_Find_l0 N l_1 name_2 kp0 kp1 n) i_3
noncomputable def r13_Find {R : Type} (N : Nat) (l : List Node) (name : List UInt8) (k0 : Int → Option R) : Option R :=
  r13_Find_l0 N l name (k0 (-1))
    (fun (y5 : Int) =>
  k0 y5) N 1
noncomputable def r13_Find_D (N : Nat) : FD E0 := { f := 71, fn := Try.f71, q := ⟨[.t .node, .st], []⟩, loops := [{ cur := 0, live := [0, 1, 5], out := fun | .exit 0 => ([], []) | .ret => ([4], []) | _ => ([], []), q := ⟨[.t .node, .st, .i .i64], []⟩, G := fun R K n a b c => r13_Find_l0 N a b (pK ⟨[], []⟩ (K (.exit 0))) (pK ⟨[.i .i64], []⟩ (K .ret)) n c, B := fun R K rec a b c => r13_Find_l0_b N a b (pK ⟨[], []⟩ (K (.exit 0))) (pK ⟨[.i .i64], []⟩ (K .ret)) (rec a b) c }] }
noncomputable def r13_Find_S (N : Nat) : OC E0 := ⟨_, FD.ct e0 (r13_Find_D N) N (fun R k a b => r13_Find N a b (oK ⟨.i .i64, [], []⟩ k))⟩

noncomputable def r16_op {R : Type} (N : Nat) (k_ : Int) (k0 : Int → Option R) : Option R :=
  if (k_ == 5) = true then
    (k0 5)
  else
    (if (k_ == 6) = true then
      (k0 6)
    else
      (k0 (IntKind.wrap .i64 ((IntKind.wrap .i64 (7 + k_)) - 7))))
noncomputable def r16_op_D (N : Nat) : FD E0 := { f := 72, fn := Try.f72, q := ⟨[.i .i64], []⟩ }
noncomputable def r16_op_S (N : Nat) : OC E0 := ⟨_, FD.ct e0 (r16_op_D N) N (fun R k a => r16_op N a (oK ⟨.i .i64, [], []⟩ k))⟩

structure Fam_r16_expr_2 where
  r16_expr_2 : (R : Type) → Int → Int → (List UInt8) → (List Expr) → Int → (List (List UInt8)) → (List (List UInt8)) → (List (List UInt8)) → (List Node) → (List Ins) → ((List Ins) → Option R) → Option R
  r16_and_2 : (R : Type) → Int → Int → (List UInt8) → (List Expr) → Int → (List (List UInt8)) → (List (List UInt8)) → (List (List UInt8)) → (List Node) → (List Ins) → ((List Ins) → Option R) → Option R
  r16_or_2 : (R : Type) → Int → Int → (List UInt8) → (List Expr) → Int → (List (List UInt8)) → (List (List UInt8)) → (List (List UInt8)) → (List Node) → (List Ins) → ((List Ins) → Option R) → Option R

def r16_expr_2_q : Pat S := ⟨[.sw 0, y2, y1], [.rw .ins .own]⟩
noncomputable def r16_expr_2_C (F : Fam_r16_expr_2) : Ct S := ⟨45, r16_expr_2_q, fun R k a b c d e g h i j l => F.r16_expr_2 R a b c d e g h i j l (oK ⟨.sw 1, [.g], [.rw .ins .own]⟩ k)⟩
def r16_and_2_q : Pat S := ⟨[.sw 0, y2, y1], [.rw .ins .own]⟩
noncomputable def r16_and_2_C (F : Fam_r16_expr_2) : Ct S := ⟨73, r16_and_2_q, fun R k a b c d e g h i j l => F.r16_and_2 R a b c d e g h i j l (oK ⟨.sw 1, [.g], [.rw .ins .own]⟩ k)⟩
def r16_or_2_q : Pat S := ⟨[.sw 0, y2, y1], [.rw .ins .own]⟩
noncomputable def r16_or_2_C (F : Fam_r16_expr_2) : Ct S := ⟨74, r16_or_2_q, fun R k a b c d e g h i j l => F.r16_or_2 R a b c d e g h i j l (oK ⟨.sw 1, [.g], [.rw .ins .own]⟩ k)⟩
structure Fam_r16_expr_2_ok (F : Fam_r16_expr_2) : Prop where
  r16_expr_2 : (r16_expr_2_C F).ok E0
  r16_and_2 : (r16_and_2_C F).ok E0
  r16_or_2 : (r16_or_2_C F).ok E0

def z1 : ShO S := .bx [.t .str, .t .str, .t .str, .t .node]
noncomputable def r16_expr_2_c12 (F : Fam_r16_expr_2) {R : Type} (N : Nat) (v_3 : Int) (v_4 : Bool) (c_5 : List Ins) (e_6 e_7 : Int) (e_8 : List UInt8) (e_9 : List Expr) (e_10 : Int) (n_11 n_12 n_13 : List (List UInt8)) (n_14 : List Node) (kp0 : (List Ins) → Option R) (kp1 : Option R) : Option R :=
  if v_4 = true then
    ((at? e_9 0).bind fun e15 =>
    F.r16_expr_2 _ e15.Kind e15.N e15.Name e15.Kids e15.At n_11 n_12 n_13 n_14 c_5 (fun (r16 : List Ins) =>
    r16_op N e_6 (fun (r17 : Int) =>
    if r16.length + ([(⟨r17, 0, 0, []⟩ : Ins)]).length ≤ maxRow then (kp0 (r16 ++ ([(⟨r17, 0, 0, []⟩ : Ins)]))) else none)))
  else
    (if (v_3 == 18) = true then
      (F.r16_and_2 _ e_6 e_7 e_8 e_9 e_10 n_11 n_12 n_13 n_14 c_5 (fun (r18 : List Ins) =>
      kp0 r18))
    else
      (if (v_3 == 19) = true then
        (F.r16_or_2 _ e_6 e_7 e_8 e_9 e_10 n_11 n_12 n_13 n_14 c_5 (fun (r19 : List Ins) =>
        kp0 r19))
      else
        (kp1 )))
noncomputable def r16_expr_2_c17 (F : Fam_r16_expr_2) {R : Type} (N : Nat) (c_21 : List Ins) (e_22 e_23 : Int) (e_24 : List UInt8) (e_25 : List Expr) (e_26 : Int) (n_27 n_28 n_29 : List (List UInt8)) (n_30 : List Node) (kp0 : (List Ins) → Option R) : Option R :=
  (at? e_25 0).bind fun e31 =>
  F.r16_expr_2 _ e31.Kind e31.N e31.Name e31.Kids e31.At n_27 n_28 n_29 n_30 c_21 (fun (r32 : List Ins) =>
  (at? e_25 1).bind fun e33 =>
  F.r16_expr_2 _ e33.Kind e33.N e33.Name e33.Kids e33.At n_27 n_28 n_29 n_30 r32 (fun (r34 : List Ins) =>
  r16_op N e_22 (fun (r35 : Int) =>
  if r34.length + ([(⟨r35, 0, 0, []⟩ : Ins)]).length ≤ maxRow then (kp0 (r34 ++ ([(⟨r35, 0, 0, []⟩ : Ins)]))) else none)))
noncomputable def r16_expr_2_d (F : Fam_r16_expr_2) {R : Type} (N : Nat) (Kind N_ : Int) (Name : List UInt8) (Kids : List Expr) (At : Int) (Vars Ports Timers : List (List UInt8)) (Nodes : List Node) (c : List Ins) (k0 : (List Ins) → Option R) : Option R :=
  if (Kind == 1) = true then
    (if c.length + ([(⟨1, 0, N_, []⟩ : Ins)]).length ≤ maxRow then (k0 (c ++ ([(⟨1, 0, N_, []⟩ : Ins)]))) else none)
  else
    (if (Kind == 2) = true then
      (r16_place N Vars Name (fun (r1 : Int) =>
      if c.length + ([(⟨2, r1, 0, []⟩ : Ins)]).length ≤ maxRow then (k0 (c ++ ([(⟨2, r1, 0, []⟩ : Ins)]))) else none))
    else
      (if (Kind == 3) = true then
        (if c.length + ([(⟨3, 0, 0, []⟩ : Ins)]).length ≤ maxRow then (k0 (c ++ ([(⟨3, 0, 0, []⟩ : Ins)]))) else none)
      else
        (if (Kind == 4) = true then
          (r13_Find N Nodes Name (fun (r2 : Int) =>
          if c.length + ([(⟨4, r2, 0, []⟩ : Ins)]).length ≤ maxRow then (k0 (c ++ ([(⟨4, r2, 0, []⟩ : Ins)]))) else none))
        else
          (if (Kind == 5) = true then
            (r16_expr_2_c12 F N Kind (Kind == 5) c Kind N_ Name Kids At Vars Ports Timers Nodes (fun (y20 : List Ins) =>
            k0 y20)
              (r16_expr_2_c17 F N c Kind N_ Name Kids At Vars Ports Timers Nodes (fun (y36 : List Ins) =>
              k0 y36)))
          else
            (r16_expr_2_c12 F N Kind (Kind == 6) c Kind N_ Name Kids At Vars Ports Timers Nodes (fun (y37 : List Ins) =>
            k0 y37)
              (r16_expr_2_c17 F N c Kind N_ Name Kids At Vars Ports Timers Nodes (fun (y38 : List Ins) =>
              k0 y38)))))))
noncomputable def r16_expr_2_D (F : Fam_r16_expr_2) (hF : Fam_r16_expr_2_ok F) (N : Nat) : FD E0 := { f := 45, fn := Try.f45, q := r16_expr_2_q, cuts := [{ key := 12, live := [0, 4, 5, 8, 45], out := fun | .ret => ([6], []) | .normal => ([0, 4, 5], []) | _ => ([], []), q := ⟨[.sw 0, .p 1 0 0, .p 2 0 0, .i .i64, .b], [.rw .ins .own, z0, z1]⟩, G := fun R K a b c d e g h i j l m o => r16_expr_2_c12 F N a b c d e g h i j l m o (pK ⟨[.sw 1], [.g, .rw .ins .own]⟩ (K .ret)) (pK ⟨[.sw 0, .p 1 0 0, .p 2 0 0], [.rw .ins .own, z0, z1]⟩ (K .normal) c d e g h i j l m o) }, { key := 17, live := [0, 4, 5], out := fun | .ret => ([6], []) | _ => ([], []), q := ⟨[.sw 0, .p 1 0 0, .p 2 0 0], [.rw .ins .own, z0, z1]⟩, G := fun R K a b c d e g h i j l => r16_expr_2_c17 F N a b c d e g h i j l (pK ⟨[.sw 1], [.g, .rw .ins .own]⟩ (K .ret)) }], g := [⟨r16_expr_2_C F, hF.r16_expr_2⟩, r16_place_S N, r13_Find_S N, r16_op_S N, ⟨r16_and_2_C F, hF.r16_and_2⟩, ⟨r16_or_2_C F, hF.r16_or_2⟩], mode := fun | 15 => .own | 16 => .own | 26 => .own | 27 => .own | 32 => .own | 33 => .own | 43 => .own | 44 => .own | 59 => .own | 60 => .own | 90 => .own | 91 => .own | _ => .app }
theorem r16_expr_2_okF (F : Fam_r16_expr_2) (hF : Fam_r16_expr_2_ok F) (N : Nat) : Ct.ok E0 ⟨(r16_expr_2_D F hF N).f, (r16_expr_2_D F hF N).q, fun R k a b c d e g h i j l => r16_expr_2_d F N a b c d e g h i j l (oK ⟨.sw 1, [.g], [.rw .ins .own]⟩ k)⟩ := FD.ct e0 (r16_expr_2_D F hF N) N (fun R k a b c d e g h i j l => r16_expr_2_d F N a b c d e g h i j l (oK ⟨.sw 1, [.g], [.rw .ins .own]⟩ k))

noncomputable def r16_and_2_d (F : Fam_r16_expr_2) {R : Type} (N : Nat) (Kind N_ : Int) (Name : List UInt8) (Kids : List Expr) (At : Int) (Vars Ports Timers : List (List UInt8)) (Nodes : List Node) (c : List Ins) (k0 : (List Ins) → Option R) : Option R :=
  (at? Kids 0).bind fun e1 =>
  F.r16_expr_2 _ e1.Kind e1.N e1.Name e1.Kids e1.At Vars Ports Timers Nodes c (fun (r2 : List Ins) =>
  if r2.length + ([(⟨24, 0, 0, []⟩ : Ins)]).length ≤ maxRow then ((at? Kids 1).bind fun e3 =>
  F.r16_expr_2 _ e3.Kind e3.N e3.Name e3.Kids e3.At Vars Ports Timers Nodes (r2 ++ ([(⟨24, 0, 0, []⟩ : Ins)])) (fun (r4 : List Ins) =>
  if r4.length + ([(⟨24, 0, 0, []⟩ : Ins), (⟨1, 0, 1, []⟩ : Ins), (⟨23, 0, 0, []⟩ : Ins)]).length ≤ maxRow then (if (0 : Int) ≤ ((r2.length : Nat) : Int) ∧ ((r2.length : Nat) : Int) < ((r4 ++ ([(⟨24, 0, 0, []⟩ : Ins), (⟨1, 0, 1, []⟩ : Ins), (⟨23, 0, 0, []⟩ : Ins)])).length : Int) then (match (r4 ++ ([(⟨24, 0, 0, []⟩ : Ins), (⟨1, 0, 1, []⟩ : Ins), (⟨23, 0, 0, []⟩ : Ins)]))[((r2.length : Nat) : Int).toNat]? with
    | some e5 => (if (0 : Int) ≤ ((r4.length : Nat) : Int) ∧ ((r4.length : Nat) : Int) < (((r4 ++ ([(⟨24, 0, 0, []⟩ : Ins), (⟨1, 0, 1, []⟩ : Ins), (⟨23, 0, 0, []⟩ : Ins)])).set (((r2.length : Nat) : Int).toNat) (⟨e5.Op, (((r4 ++ ([(⟨24, 0, 0, []⟩ : Ins), (⟨1, 0, 1, []⟩ : Ins), (⟨23, 0, 0, []⟩ : Ins)])).length : Nat) : Int), e5.N, e5.S⟩ : Ins)).length : Int) then (match ((r4 ++ ([(⟨24, 0, 0, []⟩ : Ins), (⟨1, 0, 1, []⟩ : Ins), (⟨23, 0, 0, []⟩ : Ins)])).set (((r2.length : Nat) : Int).toNat) (⟨e5.Op, (((r4 ++ ([(⟨24, 0, 0, []⟩ : Ins), (⟨1, 0, 1, []⟩ : Ins), (⟨23, 0, 0, []⟩ : Ins)])).length : Nat) : Int), e5.N, e5.S⟩ : Ins))[((r4.length : Nat) : Int).toNat]? with
        | some e6 => (if (((r4 ++ ([(⟨24, 0, 0, []⟩ : Ins), (⟨1, 0, 1, []⟩ : Ins), (⟨23, 0, 0, []⟩ : Ins)])).set (((r2.length : Nat) : Int).toNat) (⟨e5.Op, (((r4 ++ ([(⟨24, 0, 0, []⟩ : Ins), (⟨1, 0, 1, []⟩ : Ins), (⟨23, 0, 0, []⟩ : Ins)])).length : Nat) : Int), e5.N, e5.S⟩ : Ins)).set (((r4.length : Nat) : Int).toNat) (⟨e6.Op, (((r4 ++ ([(⟨24, 0, 0, []⟩ : Ins), (⟨1, 0, 1, []⟩ : Ins), (⟨23, 0, 0, []⟩ : Ins)])).length : Nat) : Int), e6.N, e6.S⟩ : Ins)).length + ([(⟨1, 0, 0, []⟩ : Ins)]).length ≤ maxRow then (if (0 : Int) ≤ IntKind.wrap .i64 (((r4.length : Nat) : Int) + 2) ∧ IntKind.wrap .i64 (((r4.length : Nat) : Int) + 2) < (((((r4 ++ ([(⟨24, 0, 0, []⟩ : Ins), (⟨1, 0, 1, []⟩ : Ins), (⟨23, 0, 0, []⟩ : Ins)])).set (((r2.length : Nat) : Int).toNat) (⟨e5.Op, (((r4 ++ ([(⟨24, 0, 0, []⟩ : Ins), (⟨1, 0, 1, []⟩ : Ins), (⟨23, 0, 0, []⟩ : Ins)])).length : Nat) : Int), e5.N, e5.S⟩ : Ins)).set (((r4.length : Nat) : Int).toNat) (⟨e6.Op, (((r4 ++ ([(⟨24, 0, 0, []⟩ : Ins), (⟨1, 0, 1, []⟩ : Ins), (⟨23, 0, 0, []⟩ : Ins)])).length : Nat) : Int), e6.N, e6.S⟩ : Ins)) ++ ([(⟨1, 0, 0, []⟩ : Ins)])).length : Int) then (match ((((r4 ++ ([(⟨24, 0, 0, []⟩ : Ins), (⟨1, 0, 1, []⟩ : Ins), (⟨23, 0, 0, []⟩ : Ins)])).set (((r2.length : Nat) : Int).toNat) (⟨e5.Op, (((r4 ++ ([(⟨24, 0, 0, []⟩ : Ins), (⟨1, 0, 1, []⟩ : Ins), (⟨23, 0, 0, []⟩ : Ins)])).length : Nat) : Int), e5.N, e5.S⟩ : Ins)).set (((r4.length : Nat) : Int).toNat) (⟨e6.Op, (((r4 ++ ([(⟨24, 0, 0, []⟩ : Ins), (⟨1, 0, 1, []⟩ : Ins), (⟨23, 0, 0, []⟩ : Ins)])).length : Nat) : Int), e6.N, e6.S⟩ : Ins)) ++ ([(⟨1, 0, 0, []⟩ : Ins)]))[(IntKind.wrap .i64 (((r4.length : Nat) : Int) + 2)).toNat]? with
    | some e7 => (k0 (((((r4 ++ ([(⟨24, 0, 0, []⟩ : Ins), (⟨1, 0, 1, []⟩ : Ins), (⟨23, 0, 0, []⟩ : Ins)])).set (((r2.length : Nat) : Int).toNat) (⟨e5.Op, (((r4 ++ ([(⟨24, 0, 0, []⟩ : Ins), (⟨1, 0, 1, []⟩ : Ins), (⟨23, 0, 0, []⟩ : Ins)])).length : Nat) : Int), e5.N, e5.S⟩ : Ins)).set (((r4.length : Nat) : Int).toNat) (⟨e6.Op, (((r4 ++ ([(⟨24, 0, 0, []⟩ : Ins), (⟨1, 0, 1, []⟩ : Ins), (⟨23, 0, 0, []⟩ : Ins)])).length : Nat) : Int), e6.N, e6.S⟩ : Ins)) ++ ([(⟨1, 0, 0, []⟩ : Ins)])).set ((IntKind.wrap .i64 (((r4.length : Nat) : Int) + 2)).toNat) (⟨e7.Op, ((((((r4 ++ ([(⟨24, 0, 0, []⟩ : Ins), (⟨1, 0, 1, []⟩ : Ins), (⟨23, 0, 0, []⟩ : Ins)])).set (((r2.length : Nat) : Int).toNat) (⟨e5.Op, (((r4 ++ ([(⟨24, 0, 0, []⟩ : Ins), (⟨1, 0, 1, []⟩ : Ins), (⟨23, 0, 0, []⟩ : Ins)])).length : Nat) : Int), e5.N, e5.S⟩ : Ins)).set (((r4.length : Nat) : Int).toNat) (⟨e6.Op, (((r4 ++ ([(⟨24, 0, 0, []⟩ : Ins), (⟨1, 0, 1, []⟩ : Ins), (⟨23, 0, 0, []⟩ : Ins)])).length : Nat) : Int), e6.N, e6.S⟩ : Ins)) ++ ([(⟨1, 0, 0, []⟩ : Ins)])).length : Nat) : Int), e7.N, e7.S⟩ : Ins)))
    | none => none) else none) else none)
        | none => none) else none)
    | none => none) else none) else none)) else none)
noncomputable def r16_and_2_D (F : Fam_r16_expr_2) (hF : Fam_r16_expr_2_ok F) (N : Nat) : FD E0 := { f := 73, fn := Try.f73, q := r16_and_2_q, g := [⟨r16_expr_2_C F, hF.r16_expr_2⟩], mode := fun | 20 => .own | 21 => .own | 35 => .own | 36 => .own | 51 => .own | 52 => .own | _ => .app }
theorem r16_and_2_okF (F : Fam_r16_expr_2) (hF : Fam_r16_expr_2_ok F) (N : Nat) : Ct.ok E0 ⟨(r16_and_2_D F hF N).f, (r16_and_2_D F hF N).q, fun R k a b c d e g h i j l => r16_and_2_d F N a b c d e g h i j l (oK ⟨.sw 1, [.g], [.rw .ins .own]⟩ k)⟩ := FD.ct e0 (r16_and_2_D F hF N) N (fun R k a b c d e g h i j l => r16_and_2_d F N a b c d e g h i j l (oK ⟨.sw 1, [.g], [.rw .ins .own]⟩ k))

noncomputable def r16_or_2_d (F : Fam_r16_expr_2) {R : Type} (N : Nat) (Kind N_ : Int) (Name : List UInt8) (Kids : List Expr) (At : Int) (Vars Ports Timers : List (List UInt8)) (Nodes : List Node) (c : List Ins) (k0 : (List Ins) → Option R) : Option R :=
  (at? Kids 0).bind fun e1 =>
  F.r16_expr_2 _ e1.Kind e1.N e1.Name e1.Kids e1.At Vars Ports Timers Nodes c (fun (r2 : List Ins) =>
  if r2.length + ([(⟨24, 0, 0, []⟩ : Ins), (⟨1, 0, 1, []⟩ : Ins), (⟨23, 0, 0, []⟩ : Ins)]).length ≤ maxRow then (if (0 : Int) ≤ ((r2.length : Nat) : Int) ∧ ((r2.length : Nat) : Int) < ((r2 ++ ([(⟨24, 0, 0, []⟩ : Ins), (⟨1, 0, 1, []⟩ : Ins), (⟨23, 0, 0, []⟩ : Ins)])).length : Int) then (match (r2 ++ ([(⟨24, 0, 0, []⟩ : Ins), (⟨1, 0, 1, []⟩ : Ins), (⟨23, 0, 0, []⟩ : Ins)]))[((r2.length : Nat) : Int).toNat]? with
    | some e3 => ((at? Kids 1).bind fun e4 =>
  F.r16_expr_2 _ e4.Kind e4.N e4.Name e4.Kids e4.At Vars Ports Timers Nodes ((r2 ++ ([(⟨24, 0, 0, []⟩ : Ins), (⟨1, 0, 1, []⟩ : Ins), (⟨23, 0, 0, []⟩ : Ins)])).set (((r2.length : Nat) : Int).toNat) (⟨e3.Op, (((r2 ++ ([(⟨24, 0, 0, []⟩ : Ins), (⟨1, 0, 1, []⟩ : Ins), (⟨23, 0, 0, []⟩ : Ins)])).length : Nat) : Int), e3.N, e3.S⟩ : Ins)) (fun (r5 : List Ins) =>
  if r5.length + ([(⟨24, 0, 0, []⟩ : Ins), (⟨1, 0, 1, []⟩ : Ins), (⟨23, 0, 0, []⟩ : Ins)]).length ≤ maxRow then (if (0 : Int) ≤ ((r5.length : Nat) : Int) ∧ ((r5.length : Nat) : Int) < ((r5 ++ ([(⟨24, 0, 0, []⟩ : Ins), (⟨1, 0, 1, []⟩ : Ins), (⟨23, 0, 0, []⟩ : Ins)])).length : Int) then (match (r5 ++ ([(⟨24, 0, 0, []⟩ : Ins), (⟨1, 0, 1, []⟩ : Ins), (⟨23, 0, 0, []⟩ : Ins)]))[((r5.length : Nat) : Int).toNat]? with
    | some e6 => (if ((r5 ++ ([(⟨24, 0, 0, []⟩ : Ins), (⟨1, 0, 1, []⟩ : Ins), (⟨23, 0, 0, []⟩ : Ins)])).set (((r5.length : Nat) : Int).toNat) (⟨e6.Op, (((r5 ++ ([(⟨24, 0, 0, []⟩ : Ins), (⟨1, 0, 1, []⟩ : Ins), (⟨23, 0, 0, []⟩ : Ins)])).length : Nat) : Int), e6.N, e6.S⟩ : Ins)).length + ([(⟨1, 0, 0, []⟩ : Ins)]).length ≤ maxRow then (if (0 : Int) ≤ IntKind.wrap .i64 (((r2.length : Nat) : Int) + 2) ∧ IntKind.wrap .i64 (((r2.length : Nat) : Int) + 2) < ((((r5 ++ ([(⟨24, 0, 0, []⟩ : Ins), (⟨1, 0, 1, []⟩ : Ins), (⟨23, 0, 0, []⟩ : Ins)])).set (((r5.length : Nat) : Int).toNat) (⟨e6.Op, (((r5 ++ ([(⟨24, 0, 0, []⟩ : Ins), (⟨1, 0, 1, []⟩ : Ins), (⟨23, 0, 0, []⟩ : Ins)])).length : Nat) : Int), e6.N, e6.S⟩ : Ins)) ++ ([(⟨1, 0, 0, []⟩ : Ins)])).length : Int) then (match (((r5 ++ ([(⟨24, 0, 0, []⟩ : Ins), (⟨1, 0, 1, []⟩ : Ins), (⟨23, 0, 0, []⟩ : Ins)])).set (((r5.length : Nat) : Int).toNat) (⟨e6.Op, (((r5 ++ ([(⟨24, 0, 0, []⟩ : Ins), (⟨1, 0, 1, []⟩ : Ins), (⟨23, 0, 0, []⟩ : Ins)])).length : Nat) : Int), e6.N, e6.S⟩ : Ins)) ++ ([(⟨1, 0, 0, []⟩ : Ins)]))[(IntKind.wrap .i64 (((r2.length : Nat) : Int) + 2)).toNat]? with
    | some e7 => (if (0 : Int) ≤ IntKind.wrap .i64 (((r5.length : Nat) : Int) + 2) ∧ IntKind.wrap .i64 (((r5.length : Nat) : Int) + 2) < (((((r5 ++ ([(⟨24, 0, 0, []⟩ : Ins), (⟨1, 0, 1, []⟩ : Ins), (⟨23, 0, 0, []⟩ : Ins)])).set (((r5.length : Nat) : Int).toNat) (⟨e6.Op, (((r5 ++ ([(⟨24, 0, 0, []⟩ : Ins), (⟨1, 0, 1, []⟩ : Ins), (⟨23, 0, 0, []⟩ : Ins)])).length : Nat) : Int), e6.N, e6.S⟩ : Ins)) ++ ([(⟨1, 0, 0, []⟩ : Ins)])).set ((IntKind.wrap .i64 (((r2.length : Nat) : Int) + 2)).toNat) (⟨e7.Op, (((((r5 ++ ([(⟨24, 0, 0, []⟩ : Ins), (⟨1, 0, 1, []⟩ : Ins), (⟨23, 0, 0, []⟩ : Ins)])).set (((r5.length : Nat) : Int).toNat) (⟨e6.Op, (((r5 ++ ([(⟨24, 0, 0, []⟩ : Ins), (⟨1, 0, 1, []⟩ : Ins), (⟨23, 0, 0, []⟩ : Ins)])).length : Nat) : Int), e6.N, e6.S⟩ : Ins)) ++ ([(⟨1, 0, 0, []⟩ : Ins)])).length : Nat) : Int), e7.N, e7.S⟩ : Ins)).length : Int) then (match ((((r5 ++ ([(⟨24, 0, 0, []⟩ : Ins), (⟨1, 0, 1, []⟩ : Ins), (⟨23, 0, 0, []⟩ : Ins)])).set (((r5.length : Nat) : Int).toNat) (⟨e6.Op, (((r5 ++ ([(⟨24, 0, 0, []⟩ : Ins), (⟨1, 0, 1, []⟩ : Ins), (⟨23, 0, 0, []⟩ : Ins)])).length : Nat) : Int), e6.N, e6.S⟩ : Ins)) ++ ([(⟨1, 0, 0, []⟩ : Ins)])).set ((IntKind.wrap .i64 (((r2.length : Nat) : Int) + 2)).toNat) (⟨e7.Op, (((((r5 ++ ([(⟨24, 0, 0, []⟩ : Ins), (⟨1, 0, 1, []⟩ : Ins), (⟨23, 0, 0, []⟩ : Ins)])).set (((r5.length : Nat) : Int).toNat) (⟨e6.Op, (((r5 ++ ([(⟨24, 0, 0, []⟩ : Ins), (⟨1, 0, 1, []⟩ : Ins), (⟨23, 0, 0, []⟩ : Ins)])).length : Nat) : Int), e6.N, e6.S⟩ : Ins)) ++ ([(⟨1, 0, 0, []⟩ : Ins)])).length : Nat) : Int), e7.N, e7.S⟩ : Ins))[(IntKind.wrap .i64 (((r5.length : Nat) : Int) + 2)).toNat]? with
        | some e8 => (k0 (((((r5 ++ ([(⟨24, 0, 0, []⟩ : Ins), (⟨1, 0, 1, []⟩ : Ins), (⟨23, 0, 0, []⟩ : Ins)])).set (((r5.length : Nat) : Int).toNat) (⟨e6.Op, (((r5 ++ ([(⟨24, 0, 0, []⟩ : Ins), (⟨1, 0, 1, []⟩ : Ins), (⟨23, 0, 0, []⟩ : Ins)])).length : Nat) : Int), e6.N, e6.S⟩ : Ins)) ++ ([(⟨1, 0, 0, []⟩ : Ins)])).set ((IntKind.wrap .i64 (((r2.length : Nat) : Int) + 2)).toNat) (⟨e7.Op, (((((r5 ++ ([(⟨24, 0, 0, []⟩ : Ins), (⟨1, 0, 1, []⟩ : Ins), (⟨23, 0, 0, []⟩ : Ins)])).set (((r5.length : Nat) : Int).toNat) (⟨e6.Op, (((r5 ++ ([(⟨24, 0, 0, []⟩ : Ins), (⟨1, 0, 1, []⟩ : Ins), (⟨23, 0, 0, []⟩ : Ins)])).length : Nat) : Int), e6.N, e6.S⟩ : Ins)) ++ ([(⟨1, 0, 0, []⟩ : Ins)])).length : Nat) : Int), e7.N, e7.S⟩ : Ins)).set ((IntKind.wrap .i64 (((r5.length : Nat) : Int) + 2)).toNat) (⟨e8.Op, (((((r5 ++ ([(⟨24, 0, 0, []⟩ : Ins), (⟨1, 0, 1, []⟩ : Ins), (⟨23, 0, 0, []⟩ : Ins)])).set (((r5.length : Nat) : Int).toNat) (⟨e6.Op, (((r5 ++ ([(⟨24, 0, 0, []⟩ : Ins), (⟨1, 0, 1, []⟩ : Ins), (⟨23, 0, 0, []⟩ : Ins)])).length : Nat) : Int), e6.N, e6.S⟩ : Ins)) ++ ([(⟨1, 0, 0, []⟩ : Ins)])).length : Nat) : Int), e8.N, e8.S⟩ : Ins)))
        | none => none) else none)
    | none => none) else none) else none)
    | none => none) else none) else none))
    | none => none) else none) else none)
noncomputable def r16_or_2_D (F : Fam_r16_expr_2) (hF : Fam_r16_expr_2_ok F) (N : Nat) : FD E0 := { f := 74, fn := Try.f74, q := r16_or_2_q, g := [⟨r16_expr_2_C F, hF.r16_expr_2⟩], mode := fun | 22 => .own | 23 => .own | 43 => .own | 44 => .own | 53 => .own | 54 => .own | _ => .app }
theorem r16_or_2_okF (F : Fam_r16_expr_2) (hF : Fam_r16_expr_2_ok F) (N : Nat) : Ct.ok E0 ⟨(r16_or_2_D F hF N).f, (r16_or_2_D F hF N).q, fun R k a b c d e g h i j l => r16_or_2_d F N a b c d e g h i j l (oK ⟨.sw 1, [.g], [.rw .ins .own]⟩ k)⟩ := FD.ct e0 (r16_or_2_D F hF N) N (fun R k a b c d e g h i j l => r16_or_2_d F N a b c d e g h i j l (oK ⟨.sw 1, [.g], [.rw .ins .own]⟩ k))

noncomputable def Fam_r16_expr_2_next (F : Fam_r16_expr_2) (N : Nat) : Fam_r16_expr_2 where
  r16_expr_2 := fun R Kind N_ Name Kids At Vars Ports Timers Nodes c k0 => r16_expr_2_d F N Kind N_ Name Kids At Vars Ports Timers Nodes c k0
  r16_and_2 := fun R Kind N_ Name Kids At Vars Ports Timers Nodes c k0 => r16_and_2_d F N Kind N_ Name Kids At Vars Ports Timers Nodes c k0
  r16_or_2 := fun R Kind N_ Name Kids At Vars Ports Timers Nodes c k0 => r16_or_2_d F N Kind N_ Name Kids At Vars Ports Timers Nodes c k0
noncomputable def Fam_r16_expr_2_at (N : Nat) : Nat → Fam_r16_expr_2
  | 0 => { r16_expr_2 := fun _ _ _ _ _ _ _ _ _ _ _ _ => none, r16_and_2 := fun _ _ _ _ _ _ _ _ _ _ _ _ => none, r16_or_2 := fun _ _ _ _ _ _ _ _ _ _ _ _ => none }
  | d + 1 => Fam_r16_expr_2_next (Fam_r16_expr_2_at N d) N
theorem Fam_r16_expr_2_at_ok (N : Nat) : ∀ d, Fam_r16_expr_2_ok (Fam_r16_expr_2_at N d)
  | 0 => { r16_expr_2 := Ct.ok_none, r16_and_2 := Ct.ok_none, r16_or_2 := Ct.ok_none }
  | d + 1 => { r16_expr_2 := r16_expr_2_okF _ (Fam_r16_expr_2_at_ok N d) N, r16_and_2 := r16_and_2_okF _ (Fam_r16_expr_2_at_ok N d) N, r16_or_2 := r16_or_2_okF _ (Fam_r16_expr_2_at_ok N d) N }
noncomputable def r16_expr_2 {R : Type} (N : Nat) (Kind N_ : Int) (Name : List UInt8) (Kids : List Expr) (At : Int) (Vars Ports Timers : List (List UInt8)) (Nodes : List Node) (c : List Ins) (k0 : (List Ins) → Option R) : Option R := (Fam_r16_expr_2_at N N).r16_expr_2 R Kind N_ Name Kids At Vars Ports Timers Nodes c k0
noncomputable def r16_expr_2_S (N : Nat) : OC E0 := ⟨r16_expr_2_C (Fam_r16_expr_2_at N N), (Fam_r16_expr_2_at_ok N N).r16_expr_2⟩
noncomputable def r16_and_2 {R : Type} (N : Nat) (Kind N_ : Int) (Name : List UInt8) (Kids : List Expr) (At : Int) (Vars Ports Timers : List (List UInt8)) (Nodes : List Node) (c : List Ins) (k0 : (List Ins) → Option R) : Option R := (Fam_r16_expr_2_at N N).r16_and_2 R Kind N_ Name Kids At Vars Ports Timers Nodes c k0
noncomputable def r16_or_2 {R : Type} (N : Nat) (Kind N_ : Int) (Name : List UInt8) (Kids : List Expr) (At : Int) (Vars Ports Timers : List (List UInt8)) (Nodes : List Node) (c : List Ins) (k0 : (List Ins) → Option R) : Option R := (Fam_r16_expr_2_at N N).r16_or_2 R Kind N_ Name Kids At Vars Ports Timers Nodes c k0
structure Fam_r16_expr where
  r16_expr : (R : Type) → Int → Int → (List UInt8) → (List Expr) → Int → (List (List UInt8)) → (List (List UInt8)) → (List (List UInt8)) → (List Node) → ((List Ins) → Option R) → Option R
  r16_and : (R : Type) → Int → Int → (List UInt8) → (List Expr) → Int → (List (List UInt8)) → (List (List UInt8)) → (List (List UInt8)) → (List Node) → ((List Ins) → Option R) → Option R
  r16_or : (R : Type) → Int → Int → (List UInt8) → (List Expr) → Int → (List (List UInt8)) → (List (List UInt8)) → (List (List UInt8)) → (List Node) → ((List Ins) → Option R) → Option R

def r16_expr_q : Pat S := ⟨[.ns, y2, y1], []⟩
noncomputable def r16_expr_C (F : Fam_r16_expr) : Ct S := ⟨45, r16_expr_q, fun R k a b c d e g h i j => F.r16_expr R a b c d e g h i j (oK ⟨.sw 0, [], [.rw .ins .own]⟩ k)⟩
def r16_and_q : Pat S := ⟨[.ns, y2, y1], []⟩
noncomputable def r16_and_C (F : Fam_r16_expr) : Ct S := ⟨73, r16_and_q, fun R k a b c d e g h i j => F.r16_and R a b c d e g h i j (oK ⟨.sw 0, [], [.rw .ins .own]⟩ k)⟩
def r16_or_q : Pat S := ⟨[.ns, y2, y1], []⟩
noncomputable def r16_or_C (F : Fam_r16_expr) : Ct S := ⟨74, r16_or_q, fun R k a b c d e g h i j => F.r16_or R a b c d e g h i j (oK ⟨.sw 0, [], [.rw .ins .own]⟩ k)⟩
structure Fam_r16_expr_ok (F : Fam_r16_expr) : Prop where
  r16_expr : (r16_expr_C F).ok E0
  r16_and : (r16_and_C F).ok E0
  r16_or : (r16_or_C F).ok E0

end Ef

