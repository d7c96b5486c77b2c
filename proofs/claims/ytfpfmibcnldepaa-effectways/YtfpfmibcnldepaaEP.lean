/- EP: a part of the proof of EffectWays: lemmas on the evaluator and on the functions that the law reaches. -/
import Derived.Test.YtfpfmibcnldepaaES3
set_option maxRecDepth 100000
set_option linter.unusedVariables false
set_option linter.unusedSimpArgs false
namespace Ef
open Go TE Go.Proofs
def y0 : Sh S := .ag [.t .str, .t .str, .t .str, .t .str]
def y1 : Sh S := .ag [.t .str, .t .str, .t .str, .t .node]
noncomputable def l30_named {R : Type} (N : Nat)  (k0 : (List (List UInt8)) → (List (List UInt8)) → (List (List UInt8)) → (List (List UInt8)) → (List (List UInt8)) → (List (List UInt8)) → (List (List UInt8)) → (List Node) → (List (List UInt8)) → (List (List UInt8)) → (List (List UInt8)) → (List Node) → Option R) : Option R :=
 k0 ([[120], [121]]) ([[112], [113]]) ([[116]]) ([] : List (List UInt8)) ([[120], [121]]) ([[112], [113]]) ([[116]]) ([] : List Node) ([[120], [121]]) ([[112], [113]]) ([[116]]) ([] : List Node)
noncomputable def l30_named_D (N : Nat) : FD E0 := { f := 8, fn := Try.f8, q := ⟨[], []⟩, exit := [(⟨0, [0]⟩, .tree .str), (⟨0, [1]⟩, .tree .str), (⟨0, [2]⟩, .tree .str), (⟨0, [3]⟩, .tree .str), (⟨1, [0]⟩, .tree .str), (⟨1, [1]⟩, .tree .str), (⟨1, [2]⟩, .tree .str), (⟨1, [3]⟩, .tree .node), (⟨2, [0]⟩, .tree .str), (⟨2, [1]⟩, .tree .str), (⟨2, [2]⟩, .tree .str), (⟨2, [3]⟩, .tree .node)] }
noncomputable def l30_named_S (N : Nat) : OC E0 := ⟨_, FD.ct e0 (l30_named_D N) N (fun R k => l30_named N (oK ⟨.tp [y0, y1, y1], [], []⟩ k))⟩
noncomputable def r37_Place {R : Type} (N : Nat) (v n_ : Int) (k0 : Int → Option R) : Option R :=
 if n_ = 0 then none else (if (decide ((Int.tmod v n_) < 0)) = true then
  (k0 (IntKind.wrap .i64 ((Int.tmod v n_) + n_)))
 else
  (k0 (Int.tmod v n_)))
noncomputable def r37_Place_D (N : Nat) : FD E0 := { f := 10, fn := Try.f10, q := ⟨[.i .i64, .i .i64], []⟩ }
noncomputable def r37_Place_S (N : Nat) : OC E0 := ⟨_, FD.ct e0 (r37_Place_D N) N (fun R k a b => r37_Place N a b (oK ⟨.i .i64, [], []⟩ k))⟩
def y2 : Sh S := .ag [.i .i64, .i .i64, .st, .t .expr, .i .i64]
structure Fam_r30_errs where
 r30_errs : (R : Type) → Int → Int → (List UInt8) → (List Expr) → Int → (Bool → Option R) → Option R
def r30_errs_q : Pat S := ⟨[y2], []⟩
noncomputable def r30_errs_C (F : Fam_r30_errs) : Ct S := ⟨46, r30_errs_q, fun R k a b c d e => F.r30_errs R a b c d e (oK ⟨.b, [], []⟩ k)⟩
structure Fam_r30_errs_ok (F : Fam_r30_errs) : Prop where
 r30_errs : (r30_errs_C F).ok E0
def z0 : ShO S := .bx [.i .i64, .i .i64, .st, .t .expr, .i .i64]
noncomputable def r30_errs_l0_b (F : Fam_r30_errs) {R : Type} (N : Nat) (e_4 e_5 : Int) (e_6 : List UInt8) (e_7 : List Expr) (e_8 : Int) (kp0 : Option R) (kp1 : Bool → Option R) (rec : Int → Option R) (i_3 : Int) : Option R :=
 if (decide (i_3 < ((e_7.length : Nat) : Int))) = true then
  ((at? e_7 i_3).bind fun e9 =>
 F.r30_errs _ e9.Kind e9.N e9.Name e9.Kids e9.At (fun r10 =>
 if r10 = true then
  (kp1 true)
 else
  (rec (IntKind.wrap .i64 (i_3 + 1)))))
 else
  (kp0 )
noncomputable def r30_errs_l0 (F : Fam_r30_errs) {R : Type} (N : Nat) (e_4 e_5 : Int) (e_6 : List UInt8) (e_7 : List Expr) (e_8 : Int) (kp0 : Option R) (kp1 : Bool → Option R) : Nat → Int → Option R
 | 0 => fun _ => none
 | n + 1 => fun i_3 => r30_errs_l0_b F N e_4 e_5 e_6 e_7 e_8 kp0 kp1 (r30_errs_l0 F N e_4 e_5 e_6 e_7 e_8 kp0 kp1 n) i_3
noncomputable def r30_errs_d (F : Fam_r30_errs) {R : Type} (N : Nat) (Kind N_ : Int) (Name : List UInt8) (Kids : List Expr) (At : Int) (k0 : Bool → Option R) : Option R :=
 (ifB (Kind == 5) false ((ifB (decide (Kind ≥ 7)) true (some (decide (Kind ≤ 11))) (some false)).bind fun c1 =>
 some c1) (some true)).bind fun c2 =>
 if c2 = true then
  (k0 true)
 else
  (r30_errs_l0 F N Kind N_ Name Kids At (k0 false)
  (fun y11 =>
 k0 y11) N 0)
noncomputable def r30_errs_D (F : Fam_r30_errs) (hF : Fam_r30_errs_ok F) (N : Nat) : FD E0 := { f := 46, fn := Try.f46, q := r30_errs_q, loops := [{ cur := 0, live := [1, 3], out := fun | .exit 0 => ([], []) | .ret => ([2], []) | _ => ([], []), q := ⟨[.p 0 0 0, .i .i64], [z0]⟩, G := fun R K n a b c d e g => r30_errs_l0 F N b c d e g (pK ⟨[], []⟩ (K (.exit 0))) (pK ⟨[.b], []⟩ (K .ret)) n a, B := fun R K rec a b c d e g => r30_errs_l0_b F N b c d e g (pK ⟨[], []⟩ (K (.exit 0))) (pK ⟨[.b], []⟩ (K .ret)) (fun a => rec a b c d e g) a }], g := [⟨r30_errs_C F, hF.r30_errs⟩] }
theorem r30_errs_okF (F : Fam_r30_errs) (hF : Fam_r30_errs_ok F) (N : Nat) : Ct.ok E0 ⟨(r30_errs_D F hF N).f, (r30_errs_D F hF N).q, fun R k a b c d e => r30_errs_d F N a b c d e (oK ⟨.b, [], []⟩ k)⟩ := FD.ct e0 (r30_errs_D F hF N) N (fun R k a b c d e => r30_errs_d F N a b c d e (oK ⟨.b, [], []⟩ k))
noncomputable def Fam_r30_errs_next (F : Fam_r30_errs) (N : Nat) : Fam_r30_errs where
 r30_errs := fun R Kind N_ Name Kids At k0 => r30_errs_d F N Kind N_ Name Kids At k0
noncomputable def Fam_r30_errs_at (N : Nat) : Nat → Fam_r30_errs
 | 0 => { r30_errs := fun _ _ _ _ _ _ _ => none }
 | d + 1 => Fam_r30_errs_next (Fam_r30_errs_at N d) N
theorem Fam_r30_errs_at_ok (N : Nat) : ∀ d, Fam_r30_errs_ok (Fam_r30_errs_at N d)
 | 0 => { r30_errs := Ct.ok_none }
 | d + 1 => { r30_errs := r30_errs_okF _ (Fam_r30_errs_at_ok N d) N }
noncomputable def r30_errs {R : Type} (N : Nat) (Kind N_ : Int) (Name : List UInt8) (Kids : List Expr) (At : Int) (k0 : Bool → Option R) : Option R := (Fam_r30_errs_at N N).r30_errs R Kind N_ Name Kids At k0
noncomputable def r30_errs_S (N : Nat) : OC E0 := ⟨r30_errs_C (Fam_r30_errs_at N N), (Fam_r30_errs_at_ok N N).r30_errs⟩
structure Fam_effect_may where
 effect_may : (R : Type) → Int → Int → (List UInt8) → (List Expr) → Int → (Bool → Option R) → Option R
 slices_ContainsFunc_Expr : (R : Type) → (List Expr) → (Bool → Option R) → Option R
 slices_IndexFunc_Expr : (R : Type) → (List Expr) → (Int → Option R) → Option R
def effect_may_q : Pat S := ⟨[y2], []⟩
noncomputable def effect_may_C (F : Fam_effect_may) : Ct S := ⟨40, effect_may_q, fun R k a b c d e => F.effect_may R a b c d e (oK ⟨.b, [], []⟩ k)⟩
def slices_ContainsFunc_Expr_q : Pat S := ⟨[.t .expr, .fn 40 []], []⟩
noncomputable def slices_ContainsFunc_Expr_C (F : Fam_effect_may) : Ct S := ⟨62, slices_ContainsFunc_Expr_q, fun R k a => F.slices_ContainsFunc_Expr R a (oK ⟨.b, [], []⟩ k)⟩
def slices_IndexFunc_Expr_q : Pat S := ⟨[.t .expr, .fn 40 []], []⟩
noncomputable def slices_IndexFunc_Expr_C (F : Fam_effect_may) : Ct S := ⟨97, slices_IndexFunc_Expr_q, fun R k a => F.slices_IndexFunc_Expr R a (oK ⟨.i .i64, [], []⟩ k)⟩
structure Fam_effect_may_ok (F : Fam_effect_may) : Prop where
 effect_may : (effect_may_C F).ok E0
 slices_ContainsFunc_Expr : (slices_ContainsFunc_Expr_C F).ok E0
 slices_IndexFunc_Expr : (slices_IndexFunc_Expr_C F).ok E0
noncomputable def effect_may_c9 (F : Fam_effect_may) {R : Type} (N : Nat) (e_1 e_2 : Int) (e_3 : List UInt8) (e_4 : List Expr) (e_5 : Int) (kp0 : Bool → Option R) : Option R :=
 F.slices_ContainsFunc_Expr _ e_4 (fun r6 =>
 kp0 r6)
noncomputable def effect_may_d (F : Fam_effect_may) {R : Type} (N : Nat) (Kind N_ : Int) (Name : List UInt8) (Kids : List Expr) (At : Int) (k0 : Bool → Option R) : Option R :=
 if (Kind == 5) = true then
  (if (Kind == 5) = true then
   (k0 true)
  else
   (effect_may_c9 F N Kind N_ Name Kids At (fun y7 =>
   k0 y7)))
 else
  (if (Kind == 7) = true then
   (if (Kind == 7) = true then
    (k0 true)
   else
    (effect_may_c9 F N Kind N_ Name Kids At (fun y8 =>
    k0 y8)))
  else
   (if (Kind == 8) = true then
    (if (Kind == 8) = true then
     (k0 true)
    else
     (effect_may_c9 F N Kind N_ Name Kids At (fun y9 =>
     k0 y9)))
   else
    (if (Kind == 9) = true then
     (if (Kind == 9) = true then
      (k0 true)
     else
      (effect_may_c9 F N Kind N_ Name Kids At (fun y10 =>
      k0 y10)))
    else
     (if (Kind == 10) = true then
      (if (Kind == 10) = true then
       (k0 true)
      else
       (effect_may_c9 F N Kind N_ Name Kids At (fun y11 =>
       k0 y11)))
     else
      (if (Kind == 11) = true then
       (k0 true)
      else
       (effect_may_c9 F N Kind N_ Name Kids At (fun y12 =>
       k0 y12)))))))
noncomputable def effect_may_D (F : Fam_effect_may) (hF : Fam_effect_may_ok F) (N : Nat) : FD E0 := { f := 40, fn := Try.f40, q := effect_may_q, cuts := [{ key := 9, live := [1], out := fun | .ret => ([2], []) | _ => ([], []), q := ⟨[.p 0 0 0], [z0]⟩, G := fun R K a b c d e => effect_may_c9 F N a b c d e (pK ⟨[.b], []⟩ (K .ret)) }], g := [⟨slices_ContainsFunc_Expr_C F, hF.slices_ContainsFunc_Expr⟩] }
theorem effect_may_okF (F : Fam_effect_may) (hF : Fam_effect_may_ok F) (N : Nat) : Ct.ok E0 ⟨(effect_may_D F hF N).f, (effect_may_D F hF N).q, fun R k a b c d e => effect_may_d F N a b c d e (oK ⟨.b, [], []⟩ k)⟩ := FD.ct e0 (effect_may_D F hF N) N (fun R k a b c d e => effect_may_d F N a b c d e (oK ⟨.b, [], []⟩ k))
noncomputable def slices_ContainsFunc_Expr_d (F : Fam_effect_may) {R : Type} (N : Nat) (s : List Expr) (k0 : Bool → Option R) : Option R :=
 F.slices_IndexFunc_Expr _ s (fun r1 =>
 k0 (decide (r1 ≥ 0)))
noncomputable def slices_ContainsFunc_Expr_D (F : Fam_effect_may) (hF : Fam_effect_may_ok F) (N : Nat) : FD E0 := { f := 62, fn := Try.f62, q := slices_ContainsFunc_Expr_q, g := [⟨slices_IndexFunc_Expr_C F, hF.slices_IndexFunc_Expr⟩] }
theorem slices_ContainsFunc_Expr_okF (F : Fam_effect_may) (hF : Fam_effect_may_ok F) (N : Nat) : Ct.ok E0 ⟨(slices_ContainsFunc_Expr_D F hF N).f, (slices_ContainsFunc_Expr_D F hF N).q, fun R k a => slices_ContainsFunc_Expr_d F N a (oK ⟨.b, [], []⟩ k)⟩ := FD.ct e0 (slices_ContainsFunc_Expr_D F hF N) N (fun R k a => slices_ContainsFunc_Expr_d F N a (oK ⟨.b, [], []⟩ k))
noncomputable def slices_IndexFunc_Expr_l0_b (F : Fam_effect_may) {R : Type} (N : Nat) (s_1 : List Expr) (v_2 : Int) (kp0 : Option R) (kp1 : Int → Option R) (rec : Int → Option R) (v_3 : Int) : Option R :=
 if (decide (v_3 < v_2)) = true then
  ((at? s_1 v_3).bind fun e4 =>
 F.effect_may _ e4.Kind e4.N e4.Name e4.Kids e4.At (fun r5 =>
 if r5 = true then
  (kp1 v_3)
 else
  (rec (IntKind.wrap .i64 (v_3 + 1)))))
 else
  (kp0 )
noncomputable def slices_IndexFunc_Expr_l0 (F : Fam_effect_may) {R : Type} (N : Nat) (s_1 : List Expr) (v_2 : Int) (kp0 : Option R) (kp1 : Int → Option R) : Nat → Int → Option R
 | 0 => fun _ => none
 | n + 1 => fun v_3 => slices_IndexFunc_Expr_l0_b F N s_1 v_2 kp0 kp1 (slices_IndexFunc_Expr_l0 F N s_1 v_2 kp0 kp1 n) v_3
noncomputable def slices_IndexFunc_Expr_d (F : Fam_effect_may) {R : Type} (N : Nat) (s : List Expr) (k0 : Int → Option R) : Option R :=
 slices_IndexFunc_Expr_l0 F N s ((s.length : Nat) : Int) (k0 (-1))
  (fun y6 =>
 k0 y6) N 0
noncomputable def slices_IndexFunc_Expr_D (F : Fam_effect_may) (hF : Fam_effect_may_ok F) (N : Nat) : FD E0 := { f := 97, fn := Try.f97, q := slices_IndexFunc_Expr_q, loops := [{ cur := 0, live := [0, 1, 7, 8], out := fun | .exit 0 => ([], []) | .ret => ([4], []) | _ => ([], []), q := ⟨[.t .expr, .fn 40 [], .i .i64, .i .i64], []⟩, G := fun R K n a b c => slices_IndexFunc_Expr_l0 F N a b (pK ⟨[], []⟩ (K (.exit 0))) (pK ⟨[.i .i64], []⟩ (K .ret)) n c, B := fun R K rec a b c => slices_IndexFunc_Expr_l0_b F N a b (pK ⟨[], []⟩ (K (.exit 0))) (pK ⟨[.i .i64], []⟩ (K .ret)) (rec a b) c }], g := [⟨effect_may_C F, hF.effect_may⟩] }
theorem slices_IndexFunc_Expr_okF (F : Fam_effect_may) (hF : Fam_effect_may_ok F) (N : Nat) : Ct.ok E0 ⟨(slices_IndexFunc_Expr_D F hF N).f, (slices_IndexFunc_Expr_D F hF N).q, fun R k a => slices_IndexFunc_Expr_d F N a (oK ⟨.i .i64, [], []⟩ k)⟩ := FD.ct e0 (slices_IndexFunc_Expr_D F hF N) N (fun R k a => slices_IndexFunc_Expr_d F N a (oK ⟨.i .i64, [], []⟩ k))
noncomputable def Fam_effect_may_next (F : Fam_effect_may) (N : Nat) : Fam_effect_may where
 effect_may := fun R Kind N_ Name Kids At k0 => effect_may_d F N Kind N_ Name Kids At k0
 slices_ContainsFunc_Expr := fun R s k0 => slices_ContainsFunc_Expr_d F N s k0
 slices_IndexFunc_Expr := fun R s k0 => slices_IndexFunc_Expr_d F N s k0
noncomputable def Fam_effect_may_at (N : Nat) : Nat → Fam_effect_may
 | 0 => { effect_may := fun _ _ _ _ _ _ _ => none, slices_ContainsFunc_Expr := fun _ _ _ => none, slices_IndexFunc_Expr := fun _ _ _ => none }
 | d + 1 => Fam_effect_may_next (Fam_effect_may_at N d) N
theorem Fam_effect_may_at_ok (N : Nat) : ∀ d, Fam_effect_may_ok (Fam_effect_may_at N d)
 | 0 => { effect_may := Ct.ok_none, slices_ContainsFunc_Expr := Ct.ok_none, slices_IndexFunc_Expr := Ct.ok_none }
 | d + 1 => { effect_may := effect_may_okF _ (Fam_effect_may_at_ok N d) N, slices_ContainsFunc_Expr := slices_ContainsFunc_Expr_okF _ (Fam_effect_may_at_ok N d) N, slices_IndexFunc_Expr := slices_IndexFunc_Expr_okF _ (Fam_effect_may_at_ok N d) N }
noncomputable def effect_may {R : Type} (N : Nat) (Kind N_ : Int) (Name : List UInt8) (Kids : List Expr) (At : Int) (k0 : Bool → Option R) : Option R := (Fam_effect_may_at N N).effect_may R Kind N_ Name Kids At k0
noncomputable def slices_ContainsFunc_Expr {R : Type} (N : Nat) (s : List Expr) (k0 : Bool → Option R) : Option R := (Fam_effect_may_at N N).slices_ContainsFunc_Expr R s k0
noncomputable def slices_ContainsFunc_Expr_S (N : Nat) : OC E0 := ⟨slices_ContainsFunc_Expr_C (Fam_effect_may_at N N), (Fam_effect_may_at_ok N N).slices_ContainsFunc_Expr⟩
noncomputable def slices_IndexFunc_Expr {R : Type} (N : Nat) (s : List Expr) (k0 : Int → Option R) : Option R := (Fam_effect_may_at N N).slices_IndexFunc_Expr R s k0
noncomputable def r16_place_l0_b {R : Type} (N : Nat) (l_1 : List (List UInt8)) (s_2 : List UInt8) (kp0 : Option R) (kp1 : Int → Option R) (rec : Int → Option R) (i_3 : Int) : Option R :=
 if (decide (i_3 < ((l_1.length : Nat) : Int))) = true then
  ((at? l_1 i_3).bind fun e4 =>
 if (e4 == s_2) = true then
  (kp1 i_3)
 else
  (rec (IntKind.wrap .i64 (i_3 + 1))))
 else
  (kp0 )
noncomputable def r16_place_l0 {R : Type} (N : Nat) (l_1 : List (List UInt8)) (s_2 : List UInt8) (kp0 : Option R) (kp1 : Int → Option R) : Nat → Int → Option R
 | 0 => fun _ => none
 | n + 1 => fun i_3 => r16_place_l0_b N l_1 s_2 kp0 kp1 (r16_place_l0 N l_1 s_2 kp0 kp1 n) i_3
noncomputable def r16_place {R : Type} (N : Nat) (l : List (List UInt8)) (s : List UInt8) (k0 : Int → Option R) : Option R :=
 r16_place_l0 N l s (k0 (-1))
  (fun y5 =>
 k0 y5) N 0
noncomputable def r16_place_D (N : Nat) : FD E0 := { f := 70, fn := Try.f70, q := ⟨[.t .str, .st], []⟩, loops := [{ cur := 0, live := [0, 1, 5], out := fun | .exit 0 => ([], []) | .ret => ([4], []) | _ => ([], []), q := ⟨[.t .str, .st, .i .i64], []⟩, G := fun R K n a b c => r16_place_l0 N a b (pK ⟨[], []⟩ (K (.exit 0))) (pK ⟨[.i .i64], []⟩ (K .ret)) n c, B := fun R K rec a b c => r16_place_l0_b N a b (pK ⟨[], []⟩ (K (.exit 0))) (pK ⟨[.i .i64], []⟩ (K .ret)) (rec a b) c }] }
noncomputable def r16_place_S (N : Nat) : OC E0 := ⟨_, FD.ct e0 (r16_place_D N) N (fun R k a b => r16_place N a b (oK ⟨.i .i64, [], []⟩ k))⟩
noncomputable def r13_Find_l0_b {R : Type} (N : Nat) (l_1 : List Node) (name_2 : List UInt8) (kp0 : Option R) (kp1 : Int → Option R) (rec : Int → Option R) (i_3 : Int) : Option R :=
 if (decide (i_3 < ((l_1.length : Nat) : Int))) = true then
  ((at? l_1 i_3).bind fun e4 =>
 if (e4.Name == name_2) = true then
  (kp1 i_3)
 else
  (rec (IntKind.wrap .i64 (i_3 + 1))))
 else
  (kp0 )
noncomputable def r13_Find_l0 {R : Type} (N : Nat) (l_1 : List Node) (name_2 : List UInt8) (kp0 : Option R) (kp1 : Int → Option R) : Nat → Int → Option R
 | 0 => fun _ => none
 | n + 1 => fun i_3 => r13_Find_l0_b N l_1 name_2 kp0 kp1 (r13_Find_l0 N l_1 name_2 kp0 kp1 n) i_3
noncomputable def r13_Find {R : Type} (N : Nat) (l : List Node) (name : List UInt8) (k0 : Int → Option R) : Option R :=
 r13_Find_l0 N l name (k0 (-1))
  (fun y5 =>
 k0 y5) N 1
noncomputable def r13_Find_D (N : Nat) : FD E0 := { f := 71, fn := Try.f71, q := ⟨[.t .node, .st], []⟩, loops := [{ cur := 0, live := [0, 1, 5], out := fun | .exit 0 => ([], []) | .ret => ([4], []) | _ => ([], []), q := ⟨[.t .node, .st, .i .i64], []⟩, G := fun R K n a b c => r13_Find_l0 N a b (pK ⟨[], []⟩ (K (.exit 0))) (pK ⟨[.i .i64], []⟩ (K .ret)) n c, B := fun R K rec a b c => r13_Find_l0_b N a b (pK ⟨[], []⟩ (K (.exit 0))) (pK ⟨[.i .i64], []⟩ (K .ret)) (rec a b) c }] }
noncomputable def r13_Find_S (N : Nat) : OC E0 := ⟨_, FD.ct e0 (r13_Find_D N) N (fun R k a b => r13_Find N a b (oK ⟨.i .i64, [], []⟩ k))⟩
noncomputable def r16_op {R : Type} (N : Nat) (k_ : Int) (k0 : Int → Option R) : Option R :=
 if (k_ == 5) = true then
  (k0 5)
 else
  (if (k_ == 6) = true then
   (k0 6)
  else
   (k0 (IntKind.wrap .i64 ((IntKind.wrap .i64 (7 + k_)) - 7))))
noncomputable def r16_op_D (N : Nat) : FD E0 := { f := 72, fn := Try.f72, q := ⟨[.i .i64], []⟩ }
noncomputable def r16_op_S (N : Nat) : OC E0 := ⟨_, FD.ct e0 (r16_op_D N) N (fun R k a => r16_op N a (oK ⟨.i .i64, [], []⟩ k))⟩
structure Fam_r16_expr_2 where
 r16_expr_2 : (R : Type) → Int → Int → (List UInt8) → (List Expr) → Int → (List (List UInt8)) → (List (List UInt8)) → (List (List UInt8)) → (List Node) → (List Ins) → ((List Ins) → Option R) → Option R
 r16_and_2 : (R : Type) → Int → Int → (List UInt8) → (List Expr) → Int → (List (List UInt8)) → (List (List UInt8)) → (List (List UInt8)) → (List Node) → (List Ins) → ((List Ins) → Option R) → Option R
 r16_or_2 : (R : Type) → Int → Int → (List UInt8) → (List Expr) → Int → (List (List UInt8)) → (List (List UInt8)) → (List (List UInt8)) → (List Node) → (List Ins) → ((List Ins) → Option R) → Option R
def r16_expr_2_q : Pat S := ⟨[.sw 0, y2, y1], [.rw .ins .own]⟩
noncomputable def r16_expr_2_C (F : Fam_r16_expr_2) : Ct S := ⟨45, r16_expr_2_q, fun R k a b c d e g h i j l => F.r16_expr_2 R a b c d e g h i j l (oK ⟨.sw 1, [.g], [.rw .ins .own]⟩ k)⟩
def r16_and_2_q : Pat S := ⟨[.sw 0, y2, y1], [.rw .ins .own]⟩
noncomputable def r16_and_2_C (F : Fam_r16_expr_2) : Ct S := ⟨73, r16_and_2_q, fun R k a b c d e g h i j l => F.r16_and_2 R a b c d e g h i j l (oK ⟨.sw 1, [.g], [.rw .ins .own]⟩ k)⟩
def r16_or_2_q : Pat S := ⟨[.sw 0, y2, y1], [.rw .ins .own]⟩
noncomputable def r16_or_2_C (F : Fam_r16_expr_2) : Ct S := ⟨74, r16_or_2_q, fun R k a b c d e g h i j l => F.r16_or_2 R a b c d e g h i j l (oK ⟨.sw 1, [.g], [.rw .ins .own]⟩ k)⟩
structure Fam_r16_expr_2_ok (F : Fam_r16_expr_2) : Prop where
 r16_expr_2 : (r16_expr_2_C F).ok E0
 r16_and_2 : (r16_and_2_C F).ok E0
 r16_or_2 : (r16_or_2_C F).ok E0
def z1 : ShO S := .bx [.t .str, .t .str, .t .str, .t .node]
noncomputable def r16_expr_2_c12 (F : Fam_r16_expr_2) {R : Type} (N : Nat) (v_3 : Int) (v_4 : Bool) (c_5 : List Ins) (e_6 e_7 : Int) (e_8 : List UInt8) (e_9 : List Expr) (e_10 : Int) (n_11 n_12 n_13 : List (List UInt8)) (n_14 : List Node) (kp0 : (List Ins) → Option R) (kp1 : Option R) : Option R :=
 if v_4 = true then
  ((at? e_9 0).bind fun e15 =>
  F.r16_expr_2 _ e15.Kind e15.N e15.Name e15.Kids e15.At n_11 n_12 n_13 n_14 c_5 (fun r16 =>
  r16_op N e_6 (fun r17 =>
  if r16.length + ([(⟨r17, 0, 0, []⟩ : Ins)]).length ≤ maxRow then (kp0 (r16 ++ ([(⟨r17, 0, 0, []⟩ : Ins)]))) else none)))
 else
  (if (v_3 == 18) = true then
   (F.r16_and_2 _ e_6 e_7 e_8 e_9 e_10 n_11 n_12 n_13 n_14 c_5 (fun r18 =>
   kp0 r18))
  else
   (if (v_3 == 19) = true then
    (F.r16_or_2 _ e_6 e_7 e_8 e_9 e_10 n_11 n_12 n_13 n_14 c_5 (fun r19 =>
    kp0 r19))
   else
    (kp1 )))
noncomputable def r16_expr_2_c17 (F : Fam_r16_expr_2) {R : Type} (N : Nat) (c_21 : List Ins) (e_22 e_23 : Int) (e_24 : List UInt8) (e_25 : List Expr) (e_26 : Int) (n_27 n_28 n_29 : List (List UInt8)) (n_30 : List Node) (kp0 : (List Ins) → Option R) : Option R :=
 (at? e_25 0).bind fun e31 =>
 F.r16_expr_2 _ e31.Kind e31.N e31.Name e31.Kids e31.At n_27 n_28 n_29 n_30 c_21 (fun r32 =>
 (at? e_25 1).bind fun e33 =>
 F.r16_expr_2 _ e33.Kind e33.N e33.Name e33.Kids e33.At n_27 n_28 n_29 n_30 r32 (fun r34 =>
 r16_op N e_22 (fun r35 =>
 if r34.length + ([(⟨r35, 0, 0, []⟩ : Ins)]).length ≤ maxRow then (kp0 (r34 ++ ([(⟨r35, 0, 0, []⟩ : Ins)]))) else none)))
noncomputable def r16_expr_2_d (F : Fam_r16_expr_2) {R : Type} (N : Nat) (Kind N_ : Int) (Name : List UInt8) (Kids : List Expr) (At : Int) (Vars Ports Timers : List (List UInt8)) (Nodes : List Node) (c : List Ins) (k0 : (List Ins) → Option R) : Option R :=
 if (Kind == 1) = true then
  (if c.length + ([(⟨1, 0, N_, []⟩ : Ins)]).length ≤ maxRow then (k0 (c ++ ([(⟨1, 0, N_, []⟩ : Ins)]))) else none)
 else
  (if (Kind == 2) = true then
   (r16_place N Vars Name (fun r1 =>
   if c.length + ([(⟨2, r1, 0, []⟩ : Ins)]).length ≤ maxRow then (k0 (c ++ ([(⟨2, r1, 0, []⟩ : Ins)]))) else none))
  else
   (if (Kind == 3) = true then
    (if c.length + ([(⟨3, 0, 0, []⟩ : Ins)]).length ≤ maxRow then (k0 (c ++ ([(⟨3, 0, 0, []⟩ : Ins)]))) else none)
   else
    (if (Kind == 4) = true then
     (r13_Find N Nodes Name (fun r2 =>
     if c.length + ([(⟨4, r2, 0, []⟩ : Ins)]).length ≤ maxRow then (k0 (c ++ ([(⟨4, r2, 0, []⟩ : Ins)]))) else none))
    else
     (if (Kind == 5) = true then
      (r16_expr_2_c12 F N Kind (Kind == 5) c Kind N_ Name Kids At Vars Ports Timers Nodes (fun y20 =>
      k0 y20)
       (r16_expr_2_c17 F N c Kind N_ Name Kids At Vars Ports Timers Nodes (fun y36 =>
       k0 y36)))
     else
      (r16_expr_2_c12 F N Kind (Kind == 6) c Kind N_ Name Kids At Vars Ports Timers Nodes (fun y37 =>
      k0 y37)
       (r16_expr_2_c17 F N c Kind N_ Name Kids At Vars Ports Timers Nodes (fun y38 =>
       k0 y38)))))))
noncomputable def r16_expr_2_D (F : Fam_r16_expr_2) (hF : Fam_r16_expr_2_ok F) (N : Nat) : FD E0 := { f := 45, fn := Try.f45, q := r16_expr_2_q, cuts := [{ key := 12, live := [0, 4, 5, 8, 45], out := fun | .ret => ([6], []) | .normal => ([0, 4, 5], []) | _ => ([], []), q := ⟨[.sw 0, .p 1 0 0, .p 2 0 0, .i .i64, .b], [.rw .ins .own, z0, z1]⟩, G := fun R K a b c d e g h i j l m o => r16_expr_2_c12 F N a b c d e g h i j l m o (pK ⟨[.sw 1], [.g, .rw .ins .own]⟩ (K .ret)) (pK ⟨[.sw 0, .p 1 0 0, .p 2 0 0], [.rw .ins .own, z0, z1]⟩ (K .normal) c d e g h i j l m o) }, { key := 17, live := [0, 4, 5], out := fun | .ret => ([6], []) | _ => ([], []), q := ⟨[.sw 0, .p 1 0 0, .p 2 0 0], [.rw .ins .own, z0, z1]⟩, G := fun R K a b c d e g h i j l => r16_expr_2_c17 F N a b c d e g h i j l (pK ⟨[.sw 1], [.g, .rw .ins .own]⟩ (K .ret)) }], g := [⟨r16_expr_2_C F, hF.r16_expr_2⟩, r16_place_S N, r13_Find_S N, r16_op_S N, ⟨r16_and_2_C F, hF.r16_and_2⟩, ⟨r16_or_2_C F, hF.r16_or_2⟩], mode := fun | 15 => .own | 16 => .own | 26 => .own | 27 => .own | 32 => .own | 33 => .own | 43 => .own | 44 => .own | 59 => .own | 60 => .own | 90 => .own | 91 => .own | _ => .app }
theorem r16_expr_2_okF (F : Fam_r16_expr_2) (hF : Fam_r16_expr_2_ok F) (N : Nat) : Ct.ok E0 ⟨(r16_expr_2_D F hF N).f, (r16_expr_2_D F hF N).q, fun R k a b c d e g h i j l => r16_expr_2_d F N a b c d e g h i j l (oK ⟨.sw 1, [.g], [.rw .ins .own]⟩ k)⟩ := FD.ct e0 (r16_expr_2_D F hF N) N (fun R k a b c d e g h i j l => r16_expr_2_d F N a b c d e g h i j l (oK ⟨.sw 1, [.g], [.rw .ins .own]⟩ k))
noncomputable def r16_and_2_d (F : Fam_r16_expr_2) {R : Type} (N : Nat) (Kind N_ : Int) (Name : List UInt8) (Kids : List Expr) (At : Int) (Vars Ports Timers : List (List UInt8)) (Nodes : List Node) (c : List Ins) (k0 : (List Ins) → Option R) : Option R :=
 (at? Kids 0).bind fun e1 =>
 F.r16_expr_2 _ e1.Kind e1.N e1.Name e1.Kids e1.At Vars Ports Timers Nodes c (fun r2 =>
 if r2.length + ([(⟨24, 0, 0, []⟩ : Ins)]).length ≤ maxRow then ((at? Kids 1).bind fun e3 =>
 F.r16_expr_2 _ e3.Kind e3.N e3.Name e3.Kids e3.At Vars Ports Timers Nodes (r2 ++ ([(⟨24, 0, 0, []⟩ : Ins)])) (fun r4 =>
 if r4.length + ([(⟨24, 0, 0, []⟩ : Ins), (⟨1, 0, 1, []⟩ : Ins), (⟨23, 0, 0, []⟩ : Ins)]).length ≤ maxRow then (if (0 : Int) ≤ ((r2.length : Nat) : Int) ∧ ((r2.length : Nat) : Int) < ((r4 ++ ([(⟨24, 0, 0, []⟩ : Ins), (⟨1, 0, 1, []⟩ : Ins), (⟨23, 0, 0, []⟩ : Ins)])).length : Int) then (match (r4 ++ ([(⟨24, 0, 0, []⟩ : Ins), (⟨1, 0, 1, []⟩ : Ins), (⟨23, 0, 0, []⟩ : Ins)]))[((r2.length : Nat) : Int).toNat]? with
  | some e5 => (if (0 : Int) ≤ ((r4.length : Nat) : Int) ∧ ((r4.length : Nat) : Int) < (((r4 ++ ([(⟨24, 0, 0, []⟩ : Ins), (⟨1, 0, 1, []⟩ : Ins), (⟨23, 0, 0, []⟩ : Ins)])).set (((r2.length : Nat) : Int).toNat) (⟨e5.Op, (((r4 ++ ([(⟨24, 0, 0, []⟩ : Ins), (⟨1, 0, 1, []⟩ : Ins), (⟨23, 0, 0, []⟩ : Ins)])).length : Nat) : Int), e5.N, e5.S⟩ : Ins)).length : Int) then (match ((r4 ++ ([(⟨24, 0, 0, []⟩ : Ins), (⟨1, 0, 1, []⟩ : Ins), (⟨23, 0, 0, []⟩ : Ins)])).set (((r2.length : Nat) : Int).toNat) (⟨e5.Op, (((r4 ++ ([(⟨24, 0, 0, []⟩ : Ins), (⟨1, 0, 1, []⟩ : Ins), (⟨23, 0, 0, []⟩ : Ins)])).length : Nat) : Int), e5.N, e5.S⟩ : Ins))[((r4.length : Nat) : Int).toNat]? with
    | some e6 => (if (((r4 ++ ([(⟨24, 0, 0, []⟩ : Ins), (⟨1, 0, 1, []⟩ : Ins), (⟨23, 0, 0, []⟩ : Ins)])).set (((r2.length : Nat) : Int).toNat) (⟨e5.Op, (((r4 ++ ([(⟨24, 0, 0, []⟩ : Ins), (⟨1, 0, 1, []⟩ : Ins), (⟨23, 0, 0, []⟩ : Ins)])).length : Nat) : Int), e5.N, e5.S⟩ : Ins)).set (((r4.length : Nat) : Int).toNat) (⟨e6.Op, (((r4 ++ ([(⟨24, 0, 0, []⟩ : Ins), (⟨1, 0, 1, []⟩ : Ins), (⟨23, 0, 0, []⟩ : Ins)])).length : Nat) : Int), e6.N, e6.S⟩ : Ins)).length + ([(⟨1, 0, 0, []⟩ : Ins)]).length ≤ maxRow then (if (0 : Int) ≤ IntKind.wrap .i64 (((r4.length : Nat) : Int) + 2) ∧ IntKind.wrap .i64 (((r4.length : Nat) : Int) + 2) < (((((r4 ++ ([(⟨24, 0, 0, []⟩ : Ins), (⟨1, 0, 1, []⟩ : Ins), (⟨23, 0, 0, []⟩ : Ins)])).set (((r2.length : Nat) : Int).toNat) (⟨e5.Op, (((r4 ++ ([(⟨24, 0, 0, []⟩ : Ins), (⟨1, 0, 1, []⟩ : Ins), (⟨23, 0, 0, []⟩ : Ins)])).length : Nat) : Int), e5.N, e5.S⟩ : Ins)).set (((r4.length : Nat) : Int).toNat) (⟨e6.Op, (((r4 ++ ([(⟨24, 0, 0, []⟩ : Ins), (⟨1, 0, 1, []⟩ : Ins), (⟨23, 0, 0, []⟩ : Ins)])).length : Nat) : Int), e6.N, e6.S⟩ : Ins)) ++ ([(⟨1, 0, 0, []⟩ : Ins)])).length : Int) then (match ((((r4 ++ ([(⟨24, 0, 0, []⟩ : Ins), (⟨1, 0, 1, []⟩ : Ins), (⟨23, 0, 0, []⟩ : Ins)])).set (((r2.length : Nat) : Int).toNat) (⟨e5.Op, (((r4 ++ ([(⟨24, 0, 0, []⟩ : Ins), (⟨1, 0, 1, []⟩ : Ins), (⟨23, 0, 0, []⟩ : Ins)])).length : Nat) : Int), e5.N, e5.S⟩ : Ins)).set (((r4.length : Nat) : Int).toNat) (⟨e6.Op, (((r4 ++ ([(⟨24, 0, 0, []⟩ : Ins), (⟨1, 0, 1, []⟩ : Ins), (⟨23, 0, 0, []⟩ : Ins)])).length : Nat) : Int), e6.N, e6.S⟩ : Ins)) ++ ([(⟨1, 0, 0, []⟩ : Ins)]))[(IntKind.wrap .i64 (((r4.length : Nat) : Int) + 2)).toNat]? with
  | some e7 => (k0 (((((r4 ++ ([(⟨24, 0, 0, []⟩ : Ins), (⟨1, 0, 1, []⟩ : Ins), (⟨23, 0, 0, []⟩ : Ins)])).set (((r2.length : Nat) : Int).toNat) (⟨e5.Op, (((r4 ++ ([(⟨24, 0, 0, []⟩ : Ins), (⟨1, 0, 1, []⟩ : Ins), (⟨23, 0, 0, []⟩ : Ins)])).length : Nat) : Int), e5.N, e5.S⟩ : Ins)).set (((r4.length : Nat) : Int).toNat) (⟨e6.Op, (((r4 ++ ([(⟨24, 0, 0, []⟩ : Ins), (⟨1, 0, 1, []⟩ : Ins), (⟨23, 0, 0, []⟩ : Ins)])).length : Nat) : Int), e6.N, e6.S⟩ : Ins)) ++ ([(⟨1, 0, 0, []⟩ : Ins)])).set ((IntKind.wrap .i64 (((r4.length : Nat) : Int) + 2)).toNat) (⟨e7.Op, ((((((r4 ++ ([(⟨24, 0, 0, []⟩ : Ins), (⟨1, 0, 1, []⟩ : Ins), (⟨23, 0, 0, []⟩ : Ins)])).set (((r2.length : Nat) : Int).toNat) (⟨e5.Op, (((r4 ++ ([(⟨24, 0, 0, []⟩ : Ins), (⟨1, 0, 1, []⟩ : Ins), (⟨23, 0, 0, []⟩ : Ins)])).length : Nat) : Int), e5.N, e5.S⟩ : Ins)).set (((r4.length : Nat) : Int).toNat) (⟨e6.Op, (((r4 ++ ([(⟨24, 0, 0, []⟩ : Ins), (⟨1, 0, 1, []⟩ : Ins), (⟨23, 0, 0, []⟩ : Ins)])).length : Nat) : Int), e6.N, e6.S⟩ : Ins)) ++ ([(⟨1, 0, 0, []⟩ : Ins)])).length : Nat) : Int), e7.N, e7.S⟩ : Ins)))
  | none => none) else none) else none)
    | none => none) else none)
  | none => none) else none) else none)) else none)
noncomputable def r16_and_2_D (F : Fam_r16_expr_2) (hF : Fam_r16_expr_2_ok F) (N : Nat) : FD E0 := { f := 73, fn := Try.f73, q := r16_and_2_q, g := [⟨r16_expr_2_C F, hF.r16_expr_2⟩], mode := fun | 20 => .own | 21 => .own | 35 => .own | 36 => .own | 51 => .own | 52 => .own | _ => .app }
theorem r16_and_2_okF (F : Fam_r16_expr_2) (hF : Fam_r16_expr_2_ok F) (N : Nat) : Ct.ok E0 ⟨(r16_and_2_D F hF N).f, (r16_and_2_D F hF N).q, fun R k a b c d e g h i j l => r16_and_2_d F N a b c d e g h i j l (oK ⟨.sw 1, [.g], [.rw .ins .own]⟩ k)⟩ := FD.ct e0 (r16_and_2_D F hF N) N (fun R k a b c d e g h i j l => r16_and_2_d F N a b c d e g h i j l (oK ⟨.sw 1, [.g], [.rw .ins .own]⟩ k))
noncomputable def r16_or_2_d (F : Fam_r16_expr_2) {R : Type} (N : Nat) (Kind N_ : Int) (Name : List UInt8) (Kids : List Expr) (At : Int) (Vars Ports Timers : List (List UInt8)) (Nodes : List Node) (c : List Ins) (k0 : (List Ins) → Option R) : Option R :=
 (at? Kids 0).bind fun e1 =>
 F.r16_expr_2 _ e1.Kind e1.N e1.Name e1.Kids e1.At Vars Ports Timers Nodes c (fun r2 =>
 if r2.length + ([(⟨24, 0, 0, []⟩ : Ins), (⟨1, 0, 1, []⟩ : Ins), (⟨23, 0, 0, []⟩ : Ins)]).length ≤ maxRow then (if (0 : Int) ≤ ((r2.length : Nat) : Int) ∧ ((r2.length : Nat) : Int) < ((r2 ++ ([(⟨24, 0, 0, []⟩ : Ins), (⟨1, 0, 1, []⟩ : Ins), (⟨23, 0, 0, []⟩ : Ins)])).length : Int) then (match (r2 ++ ([(⟨24, 0, 0, []⟩ : Ins), (⟨1, 0, 1, []⟩ : Ins), (⟨23, 0, 0, []⟩ : Ins)]))[((r2.length : Nat) : Int).toNat]? with
  | some e3 => ((at? Kids 1).bind fun e4 =>
 F.r16_expr_2 _ e4.Kind e4.N e4.Name e4.Kids e4.At Vars Ports Timers Nodes ((r2 ++ ([(⟨24, 0, 0, []⟩ : Ins), (⟨1, 0, 1, []⟩ : Ins), (⟨23, 0, 0, []⟩ : Ins)])).set (((r2.length : Nat) : Int).toNat) (⟨e3.Op, (((r2 ++ ([(⟨24, 0, 0, []⟩ : Ins), (⟨1, 0, 1, []⟩ : Ins), (⟨23, 0, 0, []⟩ : Ins)])).length : Nat) : Int), e3.N, e3.S⟩ : Ins)) (fun r5 =>
 if r5.length + ([(⟨24, 0, 0, []⟩ : Ins), (⟨1, 0, 1, []⟩ : Ins), (⟨23, 0, 0, []⟩ : Ins)]).length ≤ maxRow then (if (0 : Int) ≤ ((r5.length : Nat) : Int) ∧ ((r5.length : Nat) : Int) < ((r5 ++ ([(⟨24, 0, 0, []⟩ : Ins), (⟨1, 0, 1, []⟩ : Ins), (⟨23, 0, 0, []⟩ : Ins)])).length : Int) then (match (r5 ++ ([(⟨24, 0, 0, []⟩ : Ins), (⟨1, 0, 1, []⟩ : Ins), (⟨23, 0, 0, []⟩ : Ins)]))[((r5.length : Nat) : Int).toNat]? with
  | some e6 => (if ((r5 ++ ([(⟨24, 0, 0, []⟩ : Ins), (⟨1, 0, 1, []⟩ : Ins), (⟨23, 0, 0, []⟩ : Ins)])).set (((r5.length : Nat) : Int).toNat) (⟨e6.Op, (((r5 ++ ([(⟨24, 0, 0, []⟩ : Ins), (⟨1, 0, 1, []⟩ : Ins), (⟨23, 0, 0, []⟩ : Ins)])).length : Nat) : Int), e6.N, e6.S⟩ : Ins)).length + ([(⟨1, 0, 0, []⟩ : Ins)]).length ≤ maxRow then (if (0 : Int) ≤ IntKind.wrap .i64 (((r2.length : Nat) : Int) + 2) ∧ IntKind.wrap .i64 (((r2.length : Nat) : Int) + 2) < ((((r5 ++ ([(⟨24, 0, 0, []⟩ : Ins), (⟨1, 0, 1, []⟩ : Ins), (⟨23, 0, 0, []⟩ : Ins)])).set (((r5.length : Nat) : Int).toNat) (⟨e6.Op, (((r5 ++ ([(⟨24, 0, 0, []⟩ : Ins), (⟨1, 0, 1, []⟩ : Ins), (⟨23, 0, 0, []⟩ : Ins)])).length : Nat) : Int), e6.N, e6.S⟩ : Ins)) ++ ([(⟨1, 0, 0, []⟩ : Ins)])).length : Int) then (match (((r5 ++ ([(⟨24, 0, 0, []⟩ : Ins), (⟨1, 0, 1, []⟩ : Ins), (⟨23, 0, 0, []⟩ : Ins)])).set (((r5.length : Nat) : Int).toNat) (⟨e6.Op, (((r5 ++ ([(⟨24, 0, 0, []⟩ : Ins), (⟨1, 0, 1, []⟩ : Ins), (⟨23, 0, 0, []⟩ : Ins)])).length : Nat) : Int), e6.N, e6.S⟩ : Ins)) ++ ([(⟨1, 0, 0, []⟩ : Ins)]))[(IntKind.wrap .i64 (((r2.length : Nat) : Int) + 2)).toNat]? with
  | some e7 => (if (0 : Int) ≤ IntKind.wrap .i64 (((r5.length : Nat) : Int) + 2) ∧ IntKind.wrap .i64 (((r5.length : Nat) : Int) + 2) < (((((r5 ++ ([(⟨24, 0, 0, []⟩ : Ins), (⟨1, 0, 1, []⟩ : Ins), (⟨23, 0, 0, []⟩ : Ins)])).set (((r5.length : Nat) : Int).toNat) (⟨e6.Op, (((r5 ++ ([(⟨24, 0, 0, []⟩ : Ins), (⟨1, 0, 1, []⟩ : Ins), (⟨23, 0, 0, []⟩ : Ins)])).length : Nat) : Int), e6.N, e6.S⟩ : Ins)) ++ ([(⟨1, 0, 0, []⟩ : Ins)])).set ((IntKind.wrap .i64 (((r2.length : Nat) : Int) + 2)).toNat) (⟨e7.Op, (((((r5 ++ ([(⟨24, 0, 0, []⟩ : Ins), (⟨1, 0, 1, []⟩ : Ins), (⟨23, 0, 0, []⟩ : Ins)])).set (((r5.length : Nat) : Int).toNat) (⟨e6.Op, (((r5 ++ ([(⟨24, 0, 0, []⟩ : Ins), (⟨1, 0, 1, []⟩ : Ins), (⟨23, 0, 0, []⟩ : Ins)])).length : Nat) : Int), e6.N, e6.S⟩ : Ins)) ++ ([(⟨1, 0, 0, []⟩ : Ins)])).length : Nat) : Int), e7.N, e7.S⟩ : Ins)).length : Int) then (match ((((r5 ++ ([(⟨24, 0, 0, []⟩ : Ins), (⟨1, 0, 1, []⟩ : Ins), (⟨23, 0, 0, []⟩ : Ins)])).set (((r5.length : Nat) : Int).toNat) (⟨e6.Op, (((r5 ++ ([(⟨24, 0, 0, []⟩ : Ins), (⟨1, 0, 1, []⟩ : Ins), (⟨23, 0, 0, []⟩ : Ins)])).length : Nat) : Int), e6.N, e6.S⟩ : Ins)) ++ ([(⟨1, 0, 0, []⟩ : Ins)])).set ((IntKind.wrap .i64 (((r2.length : Nat) : Int) + 2)).toNat) (⟨e7.Op, (((((r5 ++ ([(⟨24, 0, 0, []⟩ : Ins), (⟨1, 0, 1, []⟩ : Ins), (⟨23, 0, 0, []⟩ : Ins)])).set (((r5.length : Nat) : Int).toNat) (⟨e6.Op, (((r5 ++ ([(⟨24, 0, 0, []⟩ : Ins), (⟨1, 0, 1, []⟩ : Ins), (⟨23, 0, 0, []⟩ : Ins)])).length : Nat) : Int), e6.N, e6.S⟩ : Ins)) ++ ([(⟨1, 0, 0, []⟩ : Ins)])).length : Nat) : Int), e7.N, e7.S⟩ : Ins))[(IntKind.wrap .i64 (((r5.length : Nat) : Int) + 2)).toNat]? with
    | some e8 => (k0 (((((r5 ++ ([(⟨24, 0, 0, []⟩ : Ins), (⟨1, 0, 1, []⟩ : Ins), (⟨23, 0, 0, []⟩ : Ins)])).set (((r5.length : Nat) : Int).toNat) (⟨e6.Op, (((r5 ++ ([(⟨24, 0, 0, []⟩ : Ins), (⟨1, 0, 1, []⟩ : Ins), (⟨23, 0, 0, []⟩ : Ins)])).length : Nat) : Int), e6.N, e6.S⟩ : Ins)) ++ ([(⟨1, 0, 0, []⟩ : Ins)])).set ((IntKind.wrap .i64 (((r2.length : Nat) : Int) + 2)).toNat) (⟨e7.Op, (((((r5 ++ ([(⟨24, 0, 0, []⟩ : Ins), (⟨1, 0, 1, []⟩ : Ins), (⟨23, 0, 0, []⟩ : Ins)])).set (((r5.length : Nat) : Int).toNat) (⟨e6.Op, (((r5 ++ ([(⟨24, 0, 0, []⟩ : Ins), (⟨1, 0, 1, []⟩ : Ins), (⟨23, 0, 0, []⟩ : Ins)])).length : Nat) : Int), e6.N, e6.S⟩ : Ins)) ++ ([(⟨1, 0, 0, []⟩ : Ins)])).length : Nat) : Int), e7.N, e7.S⟩ : Ins)).set ((IntKind.wrap .i64 (((r5.length : Nat) : Int) + 2)).toNat) (⟨e8.Op, (((((r5 ++ ([(⟨24, 0, 0, []⟩ : Ins), (⟨1, 0, 1, []⟩ : Ins), (⟨23, 0, 0, []⟩ : Ins)])).set (((r5.length : Nat) : Int).toNat) (⟨e6.Op, (((r5 ++ ([(⟨24, 0, 0, []⟩ : Ins), (⟨1, 0, 1, []⟩ : Ins), (⟨23, 0, 0, []⟩ : Ins)])).length : Nat) : Int), e6.N, e6.S⟩ : Ins)) ++ ([(⟨1, 0, 0, []⟩ : Ins)])).length : Nat) : Int), e8.N, e8.S⟩ : Ins)))
    | none => none) else none)
  | none => none) else none) else none)
  | none => none) else none) else none))
  | none => none) else none) else none)
noncomputable def r16_or_2_D (F : Fam_r16_expr_2) (hF : Fam_r16_expr_2_ok F) (N : Nat) : FD E0 := { f := 74, fn := Try.f74, q := r16_or_2_q, g := [⟨r16_expr_2_C F, hF.r16_expr_2⟩], mode := fun | 22 => .own | 23 => .own | 43 => .own | 44 => .own | 53 => .own | 54 => .own | _ => .app }
theorem r16_or_2_okF (F : Fam_r16_expr_2) (hF : Fam_r16_expr_2_ok F) (N : Nat) : Ct.ok E0 ⟨(r16_or_2_D F hF N).f, (r16_or_2_D F hF N).q, fun R k a b c d e g h i j l => r16_or_2_d F N a b c d e g h i j l (oK ⟨.sw 1, [.g], [.rw .ins .own]⟩ k)⟩ := FD.ct e0 (r16_or_2_D F hF N) N (fun R k a b c d e g h i j l => r16_or_2_d F N a b c d e g h i j l (oK ⟨.sw 1, [.g], [.rw .ins .own]⟩ k))
noncomputable def Fam_r16_expr_2_next (F : Fam_r16_expr_2) (N : Nat) : Fam_r16_expr_2 where
 r16_expr_2 := fun R Kind N_ Name Kids At Vars Ports Timers Nodes c k0 => r16_expr_2_d F N Kind N_ Name Kids At Vars Ports Timers Nodes c k0
 r16_and_2 := fun R Kind N_ Name Kids At Vars Ports Timers Nodes c k0 => r16_and_2_d F N Kind N_ Name Kids At Vars Ports Timers Nodes c k0
 r16_or_2 := fun R Kind N_ Name Kids At Vars Ports Timers Nodes c k0 => r16_or_2_d F N Kind N_ Name Kids At Vars Ports Timers Nodes c k0
noncomputable def Fam_r16_expr_2_at (N : Nat) : Nat → Fam_r16_expr_2
 | 0 => { r16_expr_2 := fun _ _ _ _ _ _ _ _ _ _ _ _ => none, r16_and_2 := fun _ _ _ _ _ _ _ _ _ _ _ _ => none, r16_or_2 := fun _ _ _ _ _ _ _ _ _ _ _ _ => none }
 | d + 1 => Fam_r16_expr_2_next (Fam_r16_expr_2_at N d) N
theorem Fam_r16_expr_2_at_ok (N : Nat) : ∀ d, Fam_r16_expr_2_ok (Fam_r16_expr_2_at N d)
 | 0 => { r16_expr_2 := Ct.ok_none, r16_and_2 := Ct.ok_none, r16_or_2 := Ct.ok_none }
 | d + 1 => { r16_expr_2 := r16_expr_2_okF _ (Fam_r16_expr_2_at_ok N d) N, r16_and_2 := r16_and_2_okF _ (Fam_r16_expr_2_at_ok N d) N, r16_or_2 := r16_or_2_okF _ (Fam_r16_expr_2_at_ok N d) N }
noncomputable def r16_expr_2 {R : Type} (N : Nat) (Kind N_ : Int) (Name : List UInt8) (Kids : List Expr) (At : Int) (Vars Ports Timers : List (List UInt8)) (Nodes : List Node) (c : List Ins) (k0 : (List Ins) → Option R) : Option R := (Fam_r16_expr_2_at N N).r16_expr_2 R Kind N_ Name Kids At Vars Ports Timers Nodes c k0
noncomputable def r16_expr_2_S (N : Nat) : OC E0 := ⟨r16_expr_2_C (Fam_r16_expr_2_at N N), (Fam_r16_expr_2_at_ok N N).r16_expr_2⟩
noncomputable def r16_and_2 {R : Type} (N : Nat) (Kind N_ : Int) (Name : List UInt8) (Kids : List Expr) (At : Int) (Vars Ports Timers : List (List UInt8)) (Nodes : List Node) (c : List Ins) (k0 : (List Ins) → Option R) : Option R := (Fam_r16_expr_2_at N N).r16_and_2 R Kind N_ Name Kids At Vars Ports Timers Nodes c k0
noncomputable def r16_or_2 {R : Type} (N : Nat) (Kind N_ : Int) (Name : List UInt8) (Kids : List Expr) (At : Int) (Vars Ports Timers : List (List UInt8)) (Nodes : List Node) (c : List Ins) (k0 : (List Ins) → Option R) : Option R := (Fam_r16_expr_2_at N N).r16_or_2 R Kind N_ Name Kids At Vars Ports Timers Nodes c k0
structure Fam_r16_expr where
 r16_expr : (R : Type) → Int → Int → (List UInt8) → (List Expr) → Int → (List (List UInt8)) → (List (List UInt8)) → (List (List UInt8)) → (List Node) → ((List Ins) → Option R) → Option R
 r16_and : (R : Type) → Int → Int → (List UInt8) → (List Expr) → Int → (List (List UInt8)) → (List (List UInt8)) → (List (List UInt8)) → (List Node) → ((List Ins) → Option R) → Option R
 r16_or : (R : Type) → Int → Int → (List UInt8) → (List Expr) → Int → (List (List UInt8)) → (List (List UInt8)) → (List (List UInt8)) → (List Node) → ((List Ins) → Option R) → Option R
def r16_expr_q : Pat S := ⟨[.ns, y2, y1], []⟩
noncomputable def r16_expr_C (F : Fam_r16_expr) : Ct S := ⟨45, r16_expr_q, fun R k a b c d e g h i j => F.r16_expr R a b c d e g h i j (oK ⟨.sw 0, [], [.rw .ins .own]⟩ k)⟩
def r16_and_q : Pat S := ⟨[.ns, y2, y1], []⟩
noncomputable def r16_and_C (F : Fam_r16_expr) : Ct S := ⟨73, r16_and_q, fun R k a b c d e g h i j => F.r16_and R a b c d e g h i j (oK ⟨.sw 0, [], [.rw .ins .own]⟩ k)⟩
def r16_or_q : Pat S := ⟨[.ns, y2, y1], []⟩
noncomputable def r16_or_C (F : Fam_r16_expr) : Ct S := ⟨74, r16_or_q, fun R k a b c d e g h i j => F.r16_or R a b c d e g h i j (oK ⟨.sw 0, [], [.rw .ins .own]⟩ k)⟩
structure Fam_r16_expr_ok (F : Fam_r16_expr) : Prop where
 r16_expr : (r16_expr_C F).ok E0
 r16_and : (r16_and_C F).ok E0
 r16_or : (r16_or_C F).ok E0
noncomputable def r16_expr_c12 (F : Fam_r16_expr) {R : Type} (N : Nat) (v_3 : Int) (v_4 : Bool) (e_5 e_6 : Int) (e_7 : List UInt8) (e_8 : List Expr) (e_9 : Int) (n_10 n_11 n_12 : List (List UInt8)) (n_13 : List Node) (kp0 : (List Ins) → Option R) (kp1 : Option R) : Option R :=
 if v_4 = true then
  ((at? e_8 0).bind fun e14 =>
  F.r16_expr _ e14.Kind e14.N e14.Name e14.Kids e14.At n_10 n_11 n_12 n_13 (fun r15 =>
  r16_op N e_5 (fun r16 =>
  if r15.length + ([(⟨r16, 0, 0, []⟩ : Ins)]).length ≤ maxRow then (kp0 (r15 ++ ([(⟨r16, 0, 0, []⟩ : Ins)]))) else none)))
 else
  (if (v_3 == 18) = true then
   (F.r16_and _ e_5 e_6 e_7 e_8 e_9 n_10 n_11 n_12 n_13 (fun r17 =>
   kp0 r17))
  else
   (if (v_3 == 19) = true then
    (F.r16_or _ e_5 e_6 e_7 e_8 e_9 n_10 n_11 n_12 n_13 (fun r18 =>
    kp0 r18))
   else
    (kp1 )))
noncomputable def r16_expr_c17 (F : Fam_r16_expr) {R : Type} (N : Nat) (e_20 e_21 : Int) (e_22 : List UInt8) (e_23 : List Expr) (e_24 : Int) (n_25 n_26 n_27 : List (List UInt8)) (n_28 : List Node) (kp0 : (List Ins) → Option R) : Option R :=
 (at? e_23 0).bind fun e29 =>
 F.r16_expr _ e29.Kind e29.N e29.Name e29.Kids e29.At n_25 n_26 n_27 n_28 (fun r30 =>
 (at? e_23 1).bind fun e31 =>
 r16_expr_2 N e31.Kind e31.N e31.Name e31.Kids e31.At n_25 n_26 n_27 n_28 r30 (fun r32 =>
 r16_op N e_20 (fun r33 =>
 if r32.length + ([(⟨r33, 0, 0, []⟩ : Ins)]).length ≤ maxRow then (kp0 (r32 ++ ([(⟨r33, 0, 0, []⟩ : Ins)]))) else none)))
noncomputable def r16_expr_d (F : Fam_r16_expr) {R : Type} (N : Nat) (Kind N_ : Int) (Name : List UInt8) (Kids : List Expr) (At : Int) (Vars Ports Timers : List (List UInt8)) (Nodes : List Node) (k0 : (List Ins) → Option R) : Option R :=
 if (Kind == 1) = true then
  (if ([(⟨1, 0, N_, []⟩ : Ins)]).length ≤ maxRow then (k0 ([(⟨1, 0, N_, []⟩ : Ins)])) else none)
 else
  (if (Kind == 2) = true then
   (r16_place N Vars Name (fun r1 =>
   if ([(⟨2, r1, 0, []⟩ : Ins)]).length ≤ maxRow then (k0 ([(⟨2, r1, 0, []⟩ : Ins)])) else none))
  else
   (if (Kind == 3) = true then
    (if ([(⟨3, 0, 0, []⟩ : Ins)]).length ≤ maxRow then (k0 ([(⟨3, 0, 0, []⟩ : Ins)])) else none)
   else
    (if (Kind == 4) = true then
     (r13_Find N Nodes Name (fun r2 =>
     if ([(⟨4, r2, 0, []⟩ : Ins)]).length ≤ maxRow then (k0 ([(⟨4, r2, 0, []⟩ : Ins)])) else none))
    else
     (if (Kind == 5) = true then
      (r16_expr_c12 F N Kind (Kind == 5) Kind N_ Name Kids At Vars Ports Timers Nodes (fun y19 =>
      k0 y19)
       (r16_expr_c17 F N Kind N_ Name Kids At Vars Ports Timers Nodes (fun y34 =>
       k0 y34)))
     else
      (r16_expr_c12 F N Kind (Kind == 6) Kind N_ Name Kids At Vars Ports Timers Nodes (fun y35 =>
      k0 y35)
       (r16_expr_c17 F N Kind N_ Name Kids At Vars Ports Timers Nodes (fun y36 =>
       k0 y36)))))))
noncomputable def r16_expr_D (F : Fam_r16_expr) (hF : Fam_r16_expr_ok F) (N : Nat) : FD E0 := { f := 45, fn := Try.f45, q := r16_expr_q, cuts := [{ key := 12, live := [0, 4, 5, 8, 45], out := fun | .ret => ([6], []) | .normal => ([0, 4, 5], []) | _ => ([], []), q := ⟨[.ns, .p 0 0 0, .p 1 0 0, .i .i64, .b], [z0, z1]⟩, G := fun R K a b c d e g h i j l m => r16_expr_c12 F N a b c d e g h i j l m (pK ⟨[.sw 0], [.rw .ins .own]⟩ (K .ret)) (pK ⟨[.ns, .p 0 0 0, .p 1 0 0], [z0, z1]⟩ (K .normal) c d e g h i j l m) }, { key := 17, live := [0, 4, 5], out := fun | .ret => ([6], []) | _ => ([], []), q := ⟨[.ns, .p 0 0 0, .p 1 0 0], [z0, z1]⟩, G := fun R K a b c d e g h i j => r16_expr_c17 F N a b c d e g h i j (pK ⟨[.sw 0], [.rw .ins .own]⟩ (K .ret)) }], g := [⟨r16_expr_C F, hF.r16_expr⟩, r16_expr_2_S N, r16_place_S N, r13_Find_S N, r16_op_S N, ⟨r16_and_C F, hF.r16_and⟩, ⟨r16_or_C F, hF.r16_or⟩], mode := fun | 15 => .own | 16 => .own | 26 => .own | 27 => .own | 32 => .own | 33 => .own | 43 => .own | 44 => .own | 59 => .own | 60 => .own | 90 => .own | 91 => .own | _ => .app }
theorem r16_expr_okF (F : Fam_r16_expr) (hF : Fam_r16_expr_ok F) (N : Nat) : Ct.ok E0 ⟨(r16_expr_D F hF N).f, (r16_expr_D F hF N).q, fun R k a b c d e g h i j => r16_expr_d F N a b c d e g h i j (oK ⟨.sw 0, [], [.rw .ins .own]⟩ k)⟩ := FD.ct e0 (r16_expr_D F hF N) N (fun R k a b c d e g h i j => r16_expr_d F N a b c d e g h i j (oK ⟨.sw 0, [], [.rw .ins .own]⟩ k))
noncomputable def r16_and_d (F : Fam_r16_expr) {R : Type} (N : Nat) (Kind N_ : Int) (Name : List UInt8) (Kids : List Expr) (At : Int) (Vars Ports Timers : List (List UInt8)) (Nodes : List Node) (k0 : (List Ins) → Option R) : Option R :=
 (at? Kids 0).bind fun e1 =>
 F.r16_expr _ e1.Kind e1.N e1.Name e1.Kids e1.At Vars Ports Timers Nodes (fun r2 =>
 if r2.length + ([(⟨24, 0, 0, []⟩ : Ins)]).length ≤ maxRow then ((at? Kids 1).bind fun e3 =>
 r16_expr_2 N e3.Kind e3.N e3.Name e3.Kids e3.At Vars Ports Timers Nodes (r2 ++ ([(⟨24, 0, 0, []⟩ : Ins)])) (fun r4 =>
 if r4.length + ([(⟨24, 0, 0, []⟩ : Ins), (⟨1, 0, 1, []⟩ : Ins), (⟨23, 0, 0, []⟩ : Ins)]).length ≤ maxRow then (if (0 : Int) ≤ ((r2.length : Nat) : Int) ∧ ((r2.length : Nat) : Int) < ((r4 ++ ([(⟨24, 0, 0, []⟩ : Ins), (⟨1, 0, 1, []⟩ : Ins), (⟨23, 0, 0, []⟩ : Ins)])).length : Int) then (match (r4 ++ ([(⟨24, 0, 0, []⟩ : Ins), (⟨1, 0, 1, []⟩ : Ins), (⟨23, 0, 0, []⟩ : Ins)]))[((r2.length : Nat) : Int).toNat]? with
  | some e5 => (if (0 : Int) ≤ ((r4.length : Nat) : Int) ∧ ((r4.length : Nat) : Int) < (((r4 ++ ([(⟨24, 0, 0, []⟩ : Ins), (⟨1, 0, 1, []⟩ : Ins), (⟨23, 0, 0, []⟩ : Ins)])).set (((r2.length : Nat) : Int).toNat) (⟨e5.Op, (((r4 ++ ([(⟨24, 0, 0, []⟩ : Ins), (⟨1, 0, 1, []⟩ : Ins), (⟨23, 0, 0, []⟩ : Ins)])).length : Nat) : Int), e5.N, e5.S⟩ : Ins)).length : Int) then (match ((r4 ++ ([(⟨24, 0, 0, []⟩ : Ins), (⟨1, 0, 1, []⟩ : Ins), (⟨23, 0, 0, []⟩ : Ins)])).set (((r2.length : Nat) : Int).toNat) (⟨e5.Op, (((r4 ++ ([(⟨24, 0, 0, []⟩ : Ins), (⟨1, 0, 1, []⟩ : Ins), (⟨23, 0, 0, []⟩ : Ins)])).length : Nat) : Int), e5.N, e5.S⟩ : Ins))[((r4.length : Nat) : Int).toNat]? with
    | some e6 => (if (((r4 ++ ([(⟨24, 0, 0, []⟩ : Ins), (⟨1, 0, 1, []⟩ : Ins), (⟨23, 0, 0, []⟩ : Ins)])).set (((r2.length : Nat) : Int).toNat) (⟨e5.Op, (((r4 ++ ([(⟨24, 0, 0, []⟩ : Ins), (⟨1, 0, 1, []⟩ : Ins), (⟨23, 0, 0, []⟩ : Ins)])).length : Nat) : Int), e5.N, e5.S⟩ : Ins)).set (((r4.length : Nat) : Int).toNat) (⟨e6.Op, (((r4 ++ ([(⟨24, 0, 0, []⟩ : Ins), (⟨1, 0, 1, []⟩ : Ins), (⟨23, 0, 0, []⟩ : Ins)])).length : Nat) : Int), e6.N, e6.S⟩ : Ins)).length + ([(⟨1, 0, 0, []⟩ : Ins)]).length ≤ maxRow then (if (0 : Int) ≤ IntKind.wrap .i64 (((r4.length : Nat) : Int) + 2) ∧ IntKind.wrap .i64 (((r4.length : Nat) : Int) + 2) < (((((r4 ++ ([(⟨24, 0, 0, []⟩ : Ins), (⟨1, 0, 1, []⟩ : Ins), (⟨23, 0, 0, []⟩ : Ins)])).set (((r2.length : Nat) : Int).toNat) (⟨e5.Op, (((r4 ++ ([(⟨24, 0, 0, []⟩ : Ins), (⟨1, 0, 1, []⟩ : Ins), (⟨23, 0, 0, []⟩ : Ins)])).length : Nat) : Int), e5.N, e5.S⟩ : Ins)).set (((r4.length : Nat) : Int).toNat) (⟨e6.Op, (((r4 ++ ([(⟨24, 0, 0, []⟩ : Ins), (⟨1, 0, 1, []⟩ : Ins), (⟨23, 0, 0, []⟩ : Ins)])).length : Nat) : Int), e6.N, e6.S⟩ : Ins)) ++ ([(⟨1, 0, 0, []⟩ : Ins)])).length : Int) then (match ((((r4 ++ ([(⟨24, 0, 0, []⟩ : Ins), (⟨1, 0, 1, []⟩ : Ins), (⟨23, 0, 0, []⟩ : Ins)])).set (((r2.length : Nat) : Int).toNat) (⟨e5.Op, (((r4 ++ ([(⟨24, 0, 0, []⟩ : Ins), (⟨1, 0, 1, []⟩ : Ins), (⟨23, 0, 0, []⟩ : Ins)])).length : Nat) : Int), e5.N, e5.S⟩ : Ins)).set (((r4.length : Nat) : Int).toNat) (⟨e6.Op, (((r4 ++ ([(⟨24, 0, 0, []⟩ : Ins), (⟨1, 0, 1, []⟩ : Ins), (⟨23, 0, 0, []⟩ : Ins)])).length : Nat) : Int), e6.N, e6.S⟩ : Ins)) ++ ([(⟨1, 0, 0, []⟩ : Ins)]))[(IntKind.wrap .i64 (((r4.length : Nat) : Int) + 2)).toNat]? with
  | some e7 => (k0 (((((r4 ++ ([(⟨24, 0, 0, []⟩ : Ins), (⟨1, 0, 1, []⟩ : Ins), (⟨23, 0, 0, []⟩ : Ins)])).set (((r2.length : Nat) : Int).toNat) (⟨e5.Op, (((r4 ++ ([(⟨24, 0, 0, []⟩ : Ins), (⟨1, 0, 1, []⟩ : Ins), (⟨23, 0, 0, []⟩ : Ins)])).length : Nat) : Int), e5.N, e5.S⟩ : Ins)).set (((r4.length : Nat) : Int).toNat) (⟨e6.Op, (((r4 ++ ([(⟨24, 0, 0, []⟩ : Ins), (⟨1, 0, 1, []⟩ : Ins), (⟨23, 0, 0, []⟩ : Ins)])).length : Nat) : Int), e6.N, e6.S⟩ : Ins)) ++ ([(⟨1, 0, 0, []⟩ : Ins)])).set ((IntKind.wrap .i64 (((r4.length : Nat) : Int) + 2)).toNat) (⟨e7.Op, ((((((r4 ++ ([(⟨24, 0, 0, []⟩ : Ins), (⟨1, 0, 1, []⟩ : Ins), (⟨23, 0, 0, []⟩ : Ins)])).set (((r2.length : Nat) : Int).toNat) (⟨e5.Op, (((r4 ++ ([(⟨24, 0, 0, []⟩ : Ins), (⟨1, 0, 1, []⟩ : Ins), (⟨23, 0, 0, []⟩ : Ins)])).length : Nat) : Int), e5.N, e5.S⟩ : Ins)).set (((r4.length : Nat) : Int).toNat) (⟨e6.Op, (((r4 ++ ([(⟨24, 0, 0, []⟩ : Ins), (⟨1, 0, 1, []⟩ : Ins), (⟨23, 0, 0, []⟩ : Ins)])).length : Nat) : Int), e6.N, e6.S⟩ : Ins)) ++ ([(⟨1, 0, 0, []⟩ : Ins)])).length : Nat) : Int), e7.N, e7.S⟩ : Ins)))
  | none => none) else none) else none)
    | none => none) else none)
  | none => none) else none) else none)) else none)
noncomputable def r16_and_D (F : Fam_r16_expr) (hF : Fam_r16_expr_ok F) (N : Nat) : FD E0 := { f := 73, fn := Try.f73, q := r16_and_q, g := [⟨r16_expr_C F, hF.r16_expr⟩, r16_expr_2_S N], mode := fun | 20 => .own | 21 => .own | 35 => .own | 36 => .own | 51 => .own | 52 => .own | _ => .app }
theorem r16_and_okF (F : Fam_r16_expr) (hF : Fam_r16_expr_ok F) (N : Nat) : Ct.ok E0 ⟨(r16_and_D F hF N).f, (r16_and_D F hF N).q, fun R k a b c d e g h i j => r16_and_d F N a b c d e g h i j (oK ⟨.sw 0, [], [.rw .ins .own]⟩ k)⟩ := FD.ct e0 (r16_and_D F hF N) N (fun R k a b c d e g h i j => r16_and_d F N a b c d e g h i j (oK ⟨.sw 0, [], [.rw .ins .own]⟩ k))
noncomputable def r16_or_d (F : Fam_r16_expr) {R : Type} (N : Nat) (Kind N_ : Int) (Name : List UInt8) (Kids : List Expr) (At : Int) (Vars Ports Timers : List (List UInt8)) (Nodes : List Node) (k0 : (List Ins) → Option R) : Option R :=
 (at? Kids 0).bind fun e1 =>
 F.r16_expr _ e1.Kind e1.N e1.Name e1.Kids e1.At Vars Ports Timers Nodes (fun r2 =>
 if r2.length + ([(⟨24, 0, 0, []⟩ : Ins), (⟨1, 0, 1, []⟩ : Ins), (⟨23, 0, 0, []⟩ : Ins)]).length ≤ maxRow then (if (0 : Int) ≤ ((r2.length : Nat) : Int) ∧ ((r2.length : Nat) : Int) < ((r2 ++ ([(⟨24, 0, 0, []⟩ : Ins), (⟨1, 0, 1, []⟩ : Ins), (⟨23, 0, 0, []⟩ : Ins)])).length : Int) then (match (r2 ++ ([(⟨24, 0, 0, []⟩ : Ins), (⟨1, 0, 1, []⟩ : Ins), (⟨23, 0, 0, []⟩ : Ins)]))[((r2.length : Nat) : Int).toNat]? with
  | some e3 => ((at? Kids 1).bind fun e4 =>
 r16_expr_2 N e4.Kind e4.N e4.Name e4.Kids e4.At Vars Ports Timers Nodes ((r2 ++ ([(⟨24, 0, 0, []⟩ : Ins), (⟨1, 0, 1, []⟩ : Ins), (⟨23, 0, 0, []⟩ : Ins)])).set (((r2.length : Nat) : Int).toNat) (⟨e3.Op, (((r2 ++ ([(⟨24, 0, 0, []⟩ : Ins), (⟨1, 0, 1, []⟩ : Ins), (⟨23, 0, 0, []⟩ : Ins)])).length : Nat) : Int), e3.N, e3.S⟩ : Ins)) (fun r5 =>
 if r5.length + ([(⟨24, 0, 0, []⟩ : Ins), (⟨1, 0, 1, []⟩ : Ins), (⟨23, 0, 0, []⟩ : Ins)]).length ≤ maxRow then (if (0 : Int) ≤ ((r5.length : Nat) : Int) ∧ ((r5.length : Nat) : Int) < ((r5 ++ ([(⟨24, 0, 0, []⟩ : Ins), (⟨1, 0, 1, []⟩ : Ins), (⟨23, 0, 0, []⟩ : Ins)])).length : Int) then (match (r5 ++ ([(⟨24, 0, 0, []⟩ : Ins), (⟨1, 0, 1, []⟩ : Ins), (⟨23, 0, 0, []⟩ : Ins)]))[((r5.length : Nat) : Int).toNat]? with
  | some e6 => (if ((r5 ++ ([(⟨24, 0, 0, []⟩ : Ins), (⟨1, 0, 1, []⟩ : Ins), (⟨23, 0, 0, []⟩ : Ins)])).set (((r5.length : Nat) : Int).toNat) (⟨e6.Op, (((r5 ++ ([(⟨24, 0, 0, []⟩ : Ins), (⟨1, 0, 1, []⟩ : Ins), (⟨23, 0, 0, []⟩ : Ins)])).length : Nat) : Int), e6.N, e6.S⟩ : Ins)).length + ([(⟨1, 0, 0, []⟩ : Ins)]).length ≤ maxRow then (if (0 : Int) ≤ IntKind.wrap .i64 (((r2.length : Nat) : Int) + 2) ∧ IntKind.wrap .i64 (((r2.length : Nat) : Int) + 2) < ((((r5 ++ ([(⟨24, 0, 0, []⟩ : Ins), (⟨1, 0, 1, []⟩ : Ins), (⟨23, 0, 0, []⟩ : Ins)])).set (((r5.length : Nat) : Int).toNat) (⟨e6.Op, (((r5 ++ ([(⟨24, 0, 0, []⟩ : Ins), (⟨1, 0, 1, []⟩ : Ins), (⟨23, 0, 0, []⟩ : Ins)])).length : Nat) : Int), e6.N, e6.S⟩ : Ins)) ++ ([(⟨1, 0, 0, []⟩ : Ins)])).length : Int) then (match (((r5 ++ ([(⟨24, 0, 0, []⟩ : Ins), (⟨1, 0, 1, []⟩ : Ins), (⟨23, 0, 0, []⟩ : Ins)])).set (((r5.length : Nat) : Int).toNat) (⟨e6.Op, (((r5 ++ ([(⟨24, 0, 0, []⟩ : Ins), (⟨1, 0, 1, []⟩ : Ins), (⟨23, 0, 0, []⟩ : Ins)])).length : Nat) : Int), e6.N, e6.S⟩ : Ins)) ++ ([(⟨1, 0, 0, []⟩ : Ins)]))[(IntKind.wrap .i64 (((r2.length : Nat) : Int) + 2)).toNat]? with
  | some e7 => (if (0 : Int) ≤ IntKind.wrap .i64 (((r5.length : Nat) : Int) + 2) ∧ IntKind.wrap .i64 (((r5.length : Nat) : Int) + 2) < (((((r5 ++ ([(⟨24, 0, 0, []⟩ : Ins), (⟨1, 0, 1, []⟩ : Ins), (⟨23, 0, 0, []⟩ : Ins)])).set (((r5.length : Nat) : Int).toNat) (⟨e6.Op, (((r5 ++ ([(⟨24, 0, 0, []⟩ : Ins), (⟨1, 0, 1, []⟩ : Ins), (⟨23, 0, 0, []⟩ : Ins)])).length : Nat) : Int), e6.N, e6.S⟩ : Ins)) ++ ([(⟨1, 0, 0, []⟩ : Ins)])).set ((IntKind.wrap .i64 (((r2.length : Nat) : Int) + 2)).toNat) (⟨e7.Op, (((((r5 ++ ([(⟨24, 0, 0, []⟩ : Ins), (⟨1, 0, 1, []⟩ : Ins), (⟨23, 0, 0, []⟩ : Ins)])).set (((r5.length : Nat) : Int).toNat) (⟨e6.Op, (((r5 ++ ([(⟨24, 0, 0, []⟩ : Ins), (⟨1, 0, 1, []⟩ : Ins), (⟨23, 0, 0, []⟩ : Ins)])).length : Nat) : Int), e6.N, e6.S⟩ : Ins)) ++ ([(⟨1, 0, 0, []⟩ : Ins)])).length : Nat) : Int), e7.N, e7.S⟩ : Ins)).length : Int) then (match ((((r5 ++ ([(⟨24, 0, 0, []⟩ : Ins), (⟨1, 0, 1, []⟩ : Ins), (⟨23, 0, 0, []⟩ : Ins)])).set (((r5.length : Nat) : Int).toNat) (⟨e6.Op, (((r5 ++ ([(⟨24, 0, 0, []⟩ : Ins), (⟨1, 0, 1, []⟩ : Ins), (⟨23, 0, 0, []⟩ : Ins)])).length : Nat) : Int), e6.N, e6.S⟩ : Ins)) ++ ([(⟨1, 0, 0, []⟩ : Ins)])).set ((IntKind.wrap .i64 (((r2.length : Nat) : Int) + 2)).toNat) (⟨e7.Op, (((((r5 ++ ([(⟨24, 0, 0, []⟩ : Ins), (⟨1, 0, 1, []⟩ : Ins), (⟨23, 0, 0, []⟩ : Ins)])).set (((r5.length : Nat) : Int).toNat) (⟨e6.Op, (((r5 ++ ([(⟨24, 0, 0, []⟩ : Ins), (⟨1, 0, 1, []⟩ : Ins), (⟨23, 0, 0, []⟩ : Ins)])).length : Nat) : Int), e6.N, e6.S⟩ : Ins)) ++ ([(⟨1, 0, 0, []⟩ : Ins)])).length : Nat) : Int), e7.N, e7.S⟩ : Ins))[(IntKind.wrap .i64 (((r5.length : Nat) : Int) + 2)).toNat]? with
    | some e8 => (k0 (((((r5 ++ ([(⟨24, 0, 0, []⟩ : Ins), (⟨1, 0, 1, []⟩ : Ins), (⟨23, 0, 0, []⟩ : Ins)])).set (((r5.length : Nat) : Int).toNat) (⟨e6.Op, (((r5 ++ ([(⟨24, 0, 0, []⟩ : Ins), (⟨1, 0, 1, []⟩ : Ins), (⟨23, 0, 0, []⟩ : Ins)])).length : Nat) : Int), e6.N, e6.S⟩ : Ins)) ++ ([(⟨1, 0, 0, []⟩ : Ins)])).set ((IntKind.wrap .i64 (((r2.length : Nat) : Int) + 2)).toNat) (⟨e7.Op, (((((r5 ++ ([(⟨24, 0, 0, []⟩ : Ins), (⟨1, 0, 1, []⟩ : Ins), (⟨23, 0, 0, []⟩ : Ins)])).set (((r5.length : Nat) : Int).toNat) (⟨e6.Op, (((r5 ++ ([(⟨24, 0, 0, []⟩ : Ins), (⟨1, 0, 1, []⟩ : Ins), (⟨23, 0, 0, []⟩ : Ins)])).length : Nat) : Int), e6.N, e6.S⟩ : Ins)) ++ ([(⟨1, 0, 0, []⟩ : Ins)])).length : Nat) : Int), e7.N, e7.S⟩ : Ins)).set ((IntKind.wrap .i64 (((r5.length : Nat) : Int) + 2)).toNat) (⟨e8.Op, (((((r5 ++ ([(⟨24, 0, 0, []⟩ : Ins), (⟨1, 0, 1, []⟩ : Ins), (⟨23, 0, 0, []⟩ : Ins)])).set (((r5.length : Nat) : Int).toNat) (⟨e6.Op, (((r5 ++ ([(⟨24, 0, 0, []⟩ : Ins), (⟨1, 0, 1, []⟩ : Ins), (⟨23, 0, 0, []⟩ : Ins)])).length : Nat) : Int), e6.N, e6.S⟩ : Ins)) ++ ([(⟨1, 0, 0, []⟩ : Ins)])).length : Nat) : Int), e8.N, e8.S⟩ : Ins)))
    | none => none) else none)
  | none => none) else none) else none)
  | none => none) else none) else none))
  | none => none) else none) else none)
noncomputable def r16_or_D (F : Fam_r16_expr) (hF : Fam_r16_expr_ok F) (N : Nat) : FD E0 := { f := 74, fn := Try.f74, q := r16_or_q, g := [⟨r16_expr_C F, hF.r16_expr⟩, r16_expr_2_S N], mode := fun | 22 => .own | 23 => .own | 43 => .own | 44 => .own | 53 => .own | 54 => .own | _ => .app }
theorem r16_or_okF (F : Fam_r16_expr) (hF : Fam_r16_expr_ok F) (N : Nat) : Ct.ok E0 ⟨(r16_or_D F hF N).f, (r16_or_D F hF N).q, fun R k a b c d e g h i j => r16_or_d F N a b c d e g h i j (oK ⟨.sw 0, [], [.rw .ins .own]⟩ k)⟩ := FD.ct e0 (r16_or_D F hF N) N (fun R k a b c d e g h i j => r16_or_d F N a b c d e g h i j (oK ⟨.sw 0, [], [.rw .ins .own]⟩ k))
noncomputable def Fam_r16_expr_next (F : Fam_r16_expr) (N : Nat) : Fam_r16_expr where
 r16_expr := fun R Kind N_ Name Kids At Vars Ports Timers Nodes k0 => r16_expr_d F N Kind N_ Name Kids At Vars Ports Timers Nodes k0
 r16_and := fun R Kind N_ Name Kids At Vars Ports Timers Nodes k0 => r16_and_d F N Kind N_ Name Kids At Vars Ports Timers Nodes k0
 r16_or := fun R Kind N_ Name Kids At Vars Ports Timers Nodes k0 => r16_or_d F N Kind N_ Name Kids At Vars Ports Timers Nodes k0
noncomputable def Fam_r16_expr_at (N : Nat) : Nat → Fam_r16_expr
 | 0 => { r16_expr := fun _ _ _ _ _ _ _ _ _ _ _ => none, r16_and := fun _ _ _ _ _ _ _ _ _ _ _ => none, r16_or := fun _ _ _ _ _ _ _ _ _ _ _ => none }
 | d + 1 => Fam_r16_expr_next (Fam_r16_expr_at N d) N
theorem Fam_r16_expr_at_ok (N : Nat) : ∀ d, Fam_r16_expr_ok (Fam_r16_expr_at N d)
 | 0 => { r16_expr := Ct.ok_none, r16_and := Ct.ok_none, r16_or := Ct.ok_none }
 | d + 1 => { r16_expr := r16_expr_okF _ (Fam_r16_expr_at_ok N d) N, r16_and := r16_and_okF _ (Fam_r16_expr_at_ok N d) N, r16_or := r16_or_okF _ (Fam_r16_expr_at_ok N d) N }
noncomputable def r16_expr {R : Type} (N : Nat) (Kind N_ : Int) (Name : List UInt8) (Kids : List Expr) (At : Int) (Vars Ports Timers : List (List UInt8)) (Nodes : List Node) (k0 : (List Ins) → Option R) : Option R := (Fam_r16_expr_at N N).r16_expr R Kind N_ Name Kids At Vars Ports Timers Nodes k0
noncomputable def r16_expr_S (N : Nat) : OC E0 := ⟨r16_expr_C (Fam_r16_expr_at N N), (Fam_r16_expr_at_ok N N).r16_expr⟩
noncomputable def r16_and {R : Type} (N : Nat) (Kind N_ : Int) (Name : List UInt8) (Kids : List Expr) (At : Int) (Vars Ports Timers : List (List UInt8)) (Nodes : List Node) (k0 : (List Ins) → Option R) : Option R := (Fam_r16_expr_at N N).r16_and R Kind N_ Name Kids At Vars Ports Timers Nodes k0
noncomputable def r16_or {R : Type} (N : Nat) (Kind N_ : Int) (Name : List UInt8) (Kids : List Expr) (At : Int) (Vars Ports Timers : List (List UInt8)) (Nodes : List Node) (k0 : (List Ins) → Option R) : Option R := (Fam_r16_expr_at N N).r16_or R Kind N_ Name Kids At Vars Ports Timers Nodes k0
def y3 : Sh S := .ag [.i .i64, .i .i64, .i .i64, .st]
def z2 : ShO S := .bx [.t .str, .t .str, .t .str, .t .node, .ns]
def z3 : ShO S := .bx [.t .str, .t .str, .t .str, .t .node, .sw 1]
noncomputable def code_writer_put {R : Type} (N : Nat) (Op A N_ : Int) (S : List UInt8) (Vars Ports Timers : List (List UInt8)) (Nodes : List Node) (k0 : Int → (List Ins) → Option R) : Option R :=
 if [(⟨Op, A, N_, S⟩ : Ins)].length ≤ maxRow then (k0 (IntKind.wrap .i64 ((([(⟨Op, A, N_, S⟩ : Ins)].length : Nat) : Int) - 1)) [(⟨Op, A, N_, S⟩ : Ins)]) else none
noncomputable def code_writer_put_D (N : Nat) : FD E0 := { f := 99, fn := Try.f99, q := ⟨[.p 0 0 0, y3], [z2]⟩, mode := fun | 11 => .own | 12 => .own | _ => .app }
noncomputable def code_writer_put_S (N : Nat) : OC E0 := ⟨_, FD.ct e0 (code_writer_put_D N) N (fun R k a b c d e g h i => code_writer_put N a b c d e g h i (fun j => oK ⟨.i .i64, [z3], [.rw .ins .own]⟩ k j e g h i))⟩
noncomputable def code_writer_push {R : Type} (N : Nat) (n_ : Int) (Vars Ports Timers : List (List UInt8)) (Nodes : List Node) (k0 : (List Ins) → Option R) : Option R :=
 code_writer_put N 1 0 n_ [] Vars Ports Timers Nodes (fun r1 r2 =>
 k0 r2)
noncomputable def code_writer_push_D (N : Nat) : FD E0 := { f := 98, fn := Try.f98, q := ⟨[.p 0 0 0, .i .i64], [z2]⟩, g := [code_writer_put_S N] }
noncomputable def code_writer_push_S (N : Nat) : OC E0 := ⟨_, FD.ct e0 (code_writer_push_D N) N (fun R k a b c d e => code_writer_push N a b c d e (oK ⟨.tp [], [z3], [.rw .ins .own]⟩ k b c d e))⟩
noncomputable def slices_Index_string_l0_b {R : Type} (N : Nat) (s_1 : List (List UInt8)) (v_2 : List UInt8) (v_3 : Int) (kp0 : Option R) (kp1 : Int → Option R) (rec : Int → Option R) (v_4 : Int) : Option R :=
 if (decide (v_4 < v_3)) = true then
  ((at? s_1 v_4).bind fun e5 =>
 if (v_2 == e5) = true then
  (kp1 v_4)
 else
  (rec (IntKind.wrap .i64 (v_4 + 1))))
 else
  (kp0 )
noncomputable def slices_Index_string_l0 {R : Type} (N : Nat) (s_1 : List (List UInt8)) (v_2 : List UInt8) (v_3 : Int) (kp0 : Option R) (kp1 : Int → Option R) : Nat → Int → Option R
 | 0 => fun _ => none
 | n + 1 => fun v_4 => slices_Index_string_l0_b N s_1 v_2 v_3 kp0 kp1 (slices_Index_string_l0 N s_1 v_2 v_3 kp0 kp1 n) v_4
noncomputable def slices_Index_string {R : Type} (N : Nat) (s : List (List UInt8)) (v : List UInt8) (k0 : Int → Option R) : Option R :=
 slices_Index_string_l0 N s v ((s.length : Nat) : Int) (k0 (-1))
  (fun y6 =>
 k0 y6) N 0
noncomputable def slices_Index_string_D (N : Nat) : FD E0 := { f := 77, fn := Try.f77, q := ⟨[.t .str, .st], []⟩, loops := [{ cur := 0, live := [0, 1, 7, 8], out := fun | .exit 0 => ([], []) | .ret => ([4], []) | _ => ([], []), q := ⟨[.t .str, .st, .i .i64, .i .i64], []⟩, G := fun R K n a b c d => slices_Index_string_l0 N a b c (pK ⟨[], []⟩ (K (.exit 0))) (pK ⟨[.i .i64], []⟩ (K .ret)) n d, B := fun R K rec a b c d => slices_Index_string_l0_b N a b c (pK ⟨[], []⟩ (K (.exit 0))) (pK ⟨[.i .i64], []⟩ (K .ret)) (rec a b c) d }] }
noncomputable def slices_Index_string_S (N : Nat) : OC E0 := ⟨_, FD.ct e0 (slices_Index_string_D N) N (fun R k a b => slices_Index_string N a b (oK ⟨.i .i64, [], []⟩ k))⟩
def y4 : Sh S := .ag [.i .i64, .i .i64, .i .i64, .i .i64, .i .i64, .i .i64, .st]
noncomputable def flat_Find_1 {R : Type} (N : Nat) (Kind Parent Last Init Entry Exit : Int) (Name a1_0 : List UInt8) (k0 : Bool → Option R) : Option R :=
 k0 (Name == a1_0)
noncomputable def flat_Find_1_D (N : Nat) : FD E0 := { f := 119, fn := Try.f119, q := ⟨[y4, .p 0 0 0], [.bx [.st]]⟩ }
noncomputable def flat_Find_1_S (N : Nat) : OC E0 := ⟨_, FD.ctq e0 (flat_Find_1_D N) N (fun R k a b c d e g h i => flat_Find_1 N a b c d e g h i (oQ ⟨.b, [], []⟩ k))⟩
noncomputable def slices_IndexFunc_Node_l0_b {R : Type} (N : Nat) (s_1 : List Node) (v_2 : Int) (f_4 : List UInt8) (kp0 : Option R) (kp1 : Int → Option R) (rec : Int → Option R) (v_3 : Int) : Option R :=
 if (decide (v_3 < v_2)) = true then
  ((at? s_1 v_3).bind fun e5 =>
 if (e5.Name == f_4) = true then
  (kp1 v_3)
 else
  (rec (IntKind.wrap .i64 (v_3 + 1))))
 else
  (kp0 )
noncomputable def slices_IndexFunc_Node_l0 {R : Type} (N : Nat) (s_1 : List Node) (v_2 : Int) (f_4 : List UInt8) (kp0 : Option R) (kp1 : Int → Option R) : Nat → Int → Option R
 | 0 => fun _ => none
 | n + 1 => fun v_3 => slices_IndexFunc_Node_l0_b N s_1 v_2 f_4 kp0 kp1 (slices_IndexFunc_Node_l0 N s_1 v_2 f_4 kp0 kp1 n) v_3
noncomputable def slices_IndexFunc_Node {R : Type} (N : Nat) (s : List Node) (f_c0_0 : List UInt8) (k0 : Int → Option R) : Option R :=
 slices_IndexFunc_Node_l0 N s ((s.length : Nat) : Int) f_c0_0 (k0 (-1))
  (fun y6 =>
 k0 y6) N 0
noncomputable def slices_IndexFunc_Node_D (N : Nat) : FD E0 := { f := 118, fn := Try.f118, q := ⟨[.t .node, .fn 119 [.p 0 0 0]], [.bx [.st]]⟩, loops := [{ cur := 0, live := [0, 1, 7, 8], out := fun | .exit 0 => ([], []) | .ret => ([4], []) | _ => ([], []), q := ⟨[.t .node, .fn 119 [.p 0 0 0], .i .i64, .i .i64], [.bx [.st]]⟩, G := fun R K n a b c d => slices_IndexFunc_Node_l0 N a b d (pK ⟨[], [.bx [.st]]⟩ (K (.exit 0)) d) (fun e => pK ⟨[.i .i64], [.bx [.st]]⟩ (K .ret) e d) n c, B := fun R K rec a b c d => slices_IndexFunc_Node_l0_b N a b d (pK ⟨[], [.bx [.st]]⟩ (K (.exit 0)) d) (fun e => pK ⟨[.i .i64], [.bx [.st]]⟩ (K .ret) e d) (fun c => rec a b c d) c }], g := [flat_Find_1_S N] }
noncomputable def slices_IndexFunc_Node_S (N : Nat) : OC E0 := ⟨_, FD.ctq e0 (slices_IndexFunc_Node_D N) N (fun R k a b => slices_IndexFunc_Node N a b (oQ ⟨.i .i64, [], []⟩ k))⟩
noncomputable def flat_Find {R : Type} (N : Nat) (l : List Node) (name : List UInt8) (k0 : Int → Option R) : Option R :=
 if (name == []) = true then
  (k0 (-1))
 else
  (slices_IndexFunc_Node N l name (fun r1 =>
 k0 r1))
noncomputable def flat_Find_D (N : Nat) : FD E0 := { f := 100, fn := Try.f100, q := ⟨[.t .node, .st], []⟩, g := [slices_IndexFunc_Node_S N] }
noncomputable def flat_Find_S (N : Nat) : OC E0 := ⟨_, FD.ct e0 (flat_Find_D N) N (fun R k a b => flat_Find N a b (oK ⟨.i .i64, [], []⟩ k))⟩
noncomputable def code_op {R : Type} (N : Nat) (kind : Int) (k0 : Int → Option R) : Option R :=
 if (kind == 5) = true then
  (k0 5)
 else
  (if (kind == 6) = true then
   (k0 6)
  else
   (if (kind == 7) = true then
    (k0 7)
   else
    (if (kind == 8) = true then
     (k0 8)
    else
     (if (kind == 9) = true then
      (k0 9)
     else
      (if (kind == 10) = true then
       (k0 10)
      else
       (if (kind == 11) = true then
        (k0 11)
       else
        (if (kind == 12) = true then
         (k0 12)
        else
         (if (kind == 13) = true then
          (k0 13)
         else
          (if (kind == 14) = true then
           (k0 14)
          else
           (if (kind == 15) = true then
            (k0 15)
           else
            (if (kind == 16) = true then
             (k0 16)
            else
             (k0 17))))))))))))
noncomputable def code_op_D (N : Nat) : FD E0 := { f := 102, fn := Try.f102, q := ⟨[.i .i64], []⟩ }
noncomputable def code_op_S (N : Nat) : OC E0 := ⟨_, FD.ct e0 (code_op_D N) N (fun R k a => code_op N a (oK ⟨.i .i64, [], []⟩ k))⟩
def z4 : ShO S := .bx [.t .str, .t .str, .t .str, .t .node, .sw 2]
noncomputable def code_writer_put_2 {R : Type} (N : Nat) (Op A N_ : Int) (S : List UInt8) (Vars Ports Timers : List (List UInt8)) (Nodes : List Node) (c : List Ins) (k0 : Int → (List Ins) → Option R) : Option R :=
 if c.length + [(⟨Op, A, N_, S⟩ : Ins)].length ≤ maxRow then (k0 (IntKind.wrap .i64 ((((c ++ [(⟨Op, A, N_, S⟩ : Ins)]).length : Nat) : Int) - 1)) (c ++ [(⟨Op, A, N_, S⟩ : Ins)])) else none
noncomputable def code_writer_put_2_D (N : Nat) : FD E0 := { f := 99, fn := Try.f99, q := ⟨[.p 0 0 0, y3], [z3, .rw .ins .own]⟩, mode := fun | 11 => .own | 12 => .own | _ => .app }
noncomputable def code_writer_put_2_S (N : Nat) : OC E0 := ⟨_, FD.ct e0 (code_writer_put_2_D N) N (fun R k a b c d e g h i j => code_writer_put_2 N a b c d e g h i j (fun l => oK ⟨.i .i64, [z4, .g], [.rw .ins .own]⟩ k l e g h i))⟩
noncomputable def code_writer_push_2 {R : Type} (N : Nat) (n_ : Int) (Vars Ports Timers : List (List UInt8)) (Nodes : List Node) (c : List Ins) (k0 : (List Ins) → Option R) : Option R :=
 code_writer_put_2 N 1 0 n_ [] Vars Ports Timers Nodes c (fun r1 r2 =>
 k0 r2)
noncomputable def code_writer_push_2_D (N : Nat) : FD E0 := { f := 98, fn := Try.f98, q := ⟨[.p 0 0 0, .i .i64], [z3, .rw .ins .own]⟩, g := [code_writer_put_2_S N] }
noncomputable def code_writer_push_2_S (N : Nat) : OC E0 := ⟨_, FD.ct e0 (code_writer_push_2_D N) N (fun R k a b c d e g => code_writer_push_2 N a b c d e g (oK ⟨.tp [], [z4, .g], [.rw .ins .own]⟩ k b c d e))⟩
noncomputable def code_writer_here {R : Type} (N : Nat) (at_ : Int) (Vars Ports Timers : List (List UInt8)) (Nodes : List Node) (c : List Ins) (k0 : (List Ins) → Option R) : Option R :=
 if (0 : Int) ≤ at_ ∧ at_ < (c.length : Int) then (match c[at_.toNat]? with
  | some e1 => (k0 (c.set at_.toNat (⟨e1.Op, ((c.length : Nat) : Int), e1.N, e1.S⟩ : Ins)))
  | none => none) else none
noncomputable def code_writer_here_D (N : Nat) : FD E0 := { f := 110, fn := Try.f110, q := ⟨[.p 0 0 0, .i .i64], [z3, .rw .ins .own]⟩ }
noncomputable def code_writer_here_S (N : Nat) : OC E0 := ⟨_, FD.ct e0 (code_writer_here_D N) N (fun R k a b c d e g => code_writer_here N a b c d e g (oK ⟨.tp [], [z3, .rw .ins .own], []⟩ k b c d e))⟩
structure Fam_code_writer_expr_2 where
 code_writer_expr_2 : (R : Type) → Int → Int → (List UInt8) → (List Expr) → Int → (List (List UInt8)) → (List (List UInt8)) → (List (List UInt8)) → (List Node) → (List Ins) → ((List Ins) → Option R) → (Option R) → Option R
 code_writer_both_2 : (R : Type) → Int → Int → (List UInt8) → (List Expr) → Int → (List (List UInt8)) → (List (List UInt8)) → (List (List UInt8)) → (List Node) → (List Ins) → ((List Ins) → Option R) → Option R
def code_writer_expr_2_q : Pat S := ⟨[.p 0 0 0, y2], [z3, .rw .ins .own]⟩
noncomputable def code_writer_expr_2_C (F : Fam_code_writer_expr_2) : Ct S := ⟨63, code_writer_expr_2_q, fun R k a b c d e g h i j l => F.code_writer_expr_2 R a b c d e g h i j l (oK ⟨.tp [], [z4, .g], [.rw .ins .own]⟩ k g h i j) (oK ⟨.tp [], [z3, .rw .ins .own], []⟩ k g h i j l)⟩
def code_writer_both_2_q : Pat S := ⟨[.p 0 0 0, y2], [z3, .rw .ins .own]⟩
noncomputable def code_writer_both_2_C (F : Fam_code_writer_expr_2) : Ct S := ⟨101, code_writer_both_2_q, fun R k a b c d e g h i j l => F.code_writer_both_2 R a b c d e g h i j l (oK ⟨.tp [], [z4, .g], [.rw .ins .own]⟩ k g h i j)⟩
structure Fam_code_writer_expr_2_ok (F : Fam_code_writer_expr_2) : Prop where
 code_writer_expr_2 : (code_writer_expr_2_C F).ok E0
 code_writer_both_2 : (code_writer_both_2_C F).ok E0
noncomputable def code_writer_expr_2_l1_b (F : Fam_code_writer_expr_2) {R : Type} (N : Nat) (v_37 : List Expr) (v_38 : Int) (w_40 w_41 w_42 : List (List UInt8)) (w_43 : List Node) (e_45 e_46 : Int) (e_47 : List UInt8) (e_48 : List Expr) (e_49 : Int) (kp0 : (List Ins) → Option R) (rec : Int → (List Ins) → Option R) (v_39 : Int) (o_44 : List Ins) : Option R :=
 if (decide (v_39 < v_38)) = true then
  ((at? v_37 v_39).bind fun e50 =>
 F.code_writer_expr_2 _ e50.Kind e50.N e50.Name e50.Kids e50.At w_40 w_41 w_42 w_43 o_44 (fun r51 =>
 rec (IntKind.wrap .i64 (v_39 + 1)) r51) (rec (IntKind.wrap .i64 (v_39 + 1)) o_44))
 else
  (kp0 o_44)
noncomputable def code_writer_expr_2_l1 (F : Fam_code_writer_expr_2) {R : Type} (N : Nat) (v_37 : List Expr) (v_38 : Int) (w_40 w_41 w_42 : List (List UInt8)) (w_43 : List Node) (e_45 e_46 : Int) (e_47 : List UInt8) (e_48 : List Expr) (e_49 : Int) (kp0 : (List Ins) → Option R) : Nat → Int → (List Ins) → Option R
 | 0 => fun _ _ => none
 | n + 1 => fun v_39 o_44 => code_writer_expr_2_l1_b F N v_37 v_38 w_40 w_41 w_42 w_43 e_45 e_46 e_47 e_48 e_49 kp0 (code_writer_expr_2_l1 F N v_37 v_38 w_40 w_41 w_42 w_43 e_45 e_46 e_47 e_48 e_49 kp0 n) v_39 o_44
noncomputable def code_writer_expr_2_c18 (F : Fam_code_writer_expr_2) {R : Type} (N : Nat) (v_10 : Bool) (w_11 w_12 w_13 : List (List UInt8)) (w_14 : List Node) (o_15 : List Ins) (e_16 e_17 : Int) (e_18 : List UInt8) (e_19 : List Expr) (e_20 : Int) (kp0 : (List Ins) → Option R) (kp1 : Option R) : Option R :=
 if v_10 = true then
  (if (((e_19.length : Nat) : Int) == 2) = true then
   (F.code_writer_both_2 _ e_16 e_17 e_18 e_19 e_20 w_11 w_12 w_13 w_14 o_15 (fun r21 =>
   kp0 r21))
  else
   (kp1 ))
 else
  (code_writer_expr_2_l1 F N e_19 ((e_19.length : Nat) : Int) w_11 w_12 w_13 w_14 e_16 e_17 e_18 e_19 e_20 (fun y52 =>
  code_op N e_16 (fun r53 =>
  code_writer_put_2 N r53 0 0 [] w_11 w_12 w_13 w_14 y52 (fun r54 r55 =>
  kp0 r55))) N 0 o_15)
noncomputable def code_writer_expr_2_d (F : Fam_code_writer_expr_2) {R : Type} (N : Nat) (Kind N_ : Int) (Name : List UInt8) (Kids : List Expr) (At : Int) (Vars Ports Timers : List (List UInt8)) (Nodes : List Node) (c : List Ins) (k0 : (List Ins) → Option R) (k1 : Option R) : Option R :=
 if (Kind == 1) = true then
  (code_writer_push_2 N N_ Vars Ports Timers Nodes c (fun r1 =>
  k0 r1))
 else
  (if (Kind == 2) = true then
   (slices_Index_string N Vars Name (fun r2 =>
   code_writer_put_2 N 2 r2 0 [] Vars Ports Timers Nodes c (fun r3 r4 =>
   k0 r4)))
  else
   (if (Kind == 3) = true then
    (code_writer_put_2 N 3 0 0 [] Vars Ports Timers Nodes c (fun r5 r6 =>
    k0 r6))
   else
    (if (Kind == 4) = true then
     (flat_Find N Nodes Name (fun r7 =>
     code_writer_put_2 N 4 r7 0 [] Vars Ports Timers Nodes c (fun r8 r9 =>
     k0 r9)))
    else
     (if (Kind == 18) = true then
      (code_writer_expr_2_c18 F N (Kind == 18) Vars Ports Timers Nodes c Kind N_ Name Kids At (fun y56 =>
      k0 y56)
       (k1 ))
     else
      (code_writer_expr_2_c18 F N (Kind == 19) Vars Ports Timers Nodes c Kind N_ Name Kids At (fun y57 =>
      k0 y57)
       (k1 ))))))
noncomputable def code_writer_expr_2_D (F : Fam_code_writer_expr_2) (hF : Fam_code_writer_expr_2_ok F) (N : Nat) : FD E0 := { f := 63, fn := Try.f63, q := code_writer_expr_2_q, loops := [{ cur := 1, live := [0, 3, 9, 10, 11], fix := [(⟨0, [4]⟩, .fresh .ins .own)], out := fun | .exit 1 => ([0, 3], []) | _ => ([], []), q := ⟨[.p 0 0 0, .p 3 0 0, .t .expr, .i .i64, .i .i64], [z4, .g, .rw .ins .own, z0]⟩, G := fun R K n a b c d e g h i j l m o p => code_writer_expr_2_l1 F N a b d e g h j l m o p (fun q => pK ⟨[.p 0 0 0, .p 3 0 0], [z4, .g, .rw .ins .own, z0]⟩ (K (.exit 1)) d e g h q j l m o p) n c i, B := fun R K rec a b c d e g h i j l m o p => code_writer_expr_2_l1_b F N a b d e g h j l m o p (fun q => pK ⟨[.p 0 0 0, .p 3 0 0], [z4, .g, .rw .ins .own, z0]⟩ (K (.exit 1)) d e g h q j l m o p) (fun c i => rec a b c d e g h i j l m o p) c i }], cuts := [{ key := 18, live := [0, 3, 62], out := fun | .normal => ([], []) | _ => ([], []), q := ⟨[.p 0 0 0, .p 2 0 0, .b], [z3, .rw .ins .own, z0]⟩, G := fun R K a b c d e g h i j l m => code_writer_expr_2_c18 F N a b c d e g h i j l m (pK ⟨[], [z4, .g, .rw .ins .own]⟩ (K .normal) b c d e) (pK ⟨[], [z3, .rw .ins .own]⟩ (K .normal) b c d e g) }], g := [⟨code_writer_expr_2_C F, hF.code_writer_expr_2⟩, slices_Index_string_S N, code_writer_push_2_S N, code_writer_put_2_S N, flat_Find_S N, ⟨code_writer_both_2_C F, hF.code_writer_both_2⟩, code_op_S N] }
theorem code_writer_expr_2_okF (F : Fam_code_writer_expr_2) (hF : Fam_code_writer_expr_2_ok F) (N : Nat) : Ct.ok E0 ⟨(code_writer_expr_2_D F hF N).f, (code_writer_expr_2_D F hF N).q, fun R k a b c d e g h i j l => code_writer_expr_2_d F N a b c d e g h i j l (oK ⟨.tp [], [z4, .g], [.rw .ins .own]⟩ k g h i j) (oK ⟨.tp [], [z3, .rw .ins .own], []⟩ k g h i j l)⟩ := FD.ct e0 (code_writer_expr_2_D F hF N) N (fun R k a b c d e g h i j l => code_writer_expr_2_d F N a b c d e g h i j l (oK ⟨.tp [], [z4, .g], [.rw .ins .own]⟩ k g h i j) (oK ⟨.tp [], [z3, .rw .ins .own], []⟩ k g h i j l))
noncomputable def code_writer_both_2_c7 (F : Fam_code_writer_expr_2) {R : Type} (N : Nat) (first_26 second_27 : Int) (w_28 w_29 w_30 : List (List UInt8)) (w_31 : List Node) (o_32 : List Ins) (kp0 : (List Ins) → Option R) : Option R :=
 code_writer_put_2 N 23 0 0 [] w_28 w_29 w_30 w_31 o_32 (fun r33 r34 =>
 code_writer_here N first_26 w_28 w_29 w_30 w_31 r34 (fun r35 =>
 code_writer_here N second_27 w_28 w_29 w_30 w_31 r35 (fun r36 =>
 code_writer_push_2 N 0 w_28 w_29 w_30 w_31 r36 (fun r37 =>
 code_writer_here N r33 w_28 w_29 w_30 w_31 r37 (fun r38 =>
 kp0 r38)))))
noncomputable def code_writer_both_2_c5 (F : Fam_code_writer_expr_2) {R : Type} (N : Nat) (first_17 : Int) (w_18 w_19 w_20 : List (List UInt8)) (w_21 : List Node) (o_22 : List Ins) (kp0 : (List Ins) → Option R) : Option R :=
 code_writer_put_2 N 24 0 0 [] w_18 w_19 w_20 w_21 o_22 (fun r23 r24 =>
 code_writer_push_2 N 1 w_18 w_19 w_20 w_21 r24 (fun r25 =>
 code_writer_both_2_c7 F N first_17 r23 w_18 w_19 w_20 w_21 r25 (fun y39 =>
 kp0 y39)))
noncomputable def code_writer_both_2_c17 (F : Fam_code_writer_expr_2) {R : Type} (N : Nat) (jump_67 second_68 : Int) (w_69 w_70 w_71 : List (List UInt8)) (w_72 : List Node) (o_73 : List Ins) (kp0 : (List Ins) → Option R) : Option R :=
 code_writer_push_2 N 1 w_69 w_70 w_71 w_72 o_73 (fun r74 =>
 code_writer_put_2 N 23 0 0 [] w_69 w_70 w_71 w_72 r74 (fun r75 r76 =>
 code_writer_here N second_68 w_69 w_70 w_71 w_72 r76 (fun r77 =>
 code_writer_push_2 N 0 w_69 w_70 w_71 w_72 r77 (fun r78 =>
 code_writer_here N jump_67 w_69 w_70 w_71 w_72 r78 (fun r79 =>
 code_writer_here N r75 w_69 w_70 w_71 w_72 r79 (fun r80 =>
 kp0 r80))))))
noncomputable def code_writer_both_2_c16 (F : Fam_code_writer_expr_2) {R : Type} (N : Nat) (jump_59 : Int) (w_60 w_61 w_62 : List (List UInt8)) (w_63 : List Node) (o_64 : List Ins) (kp0 : (List Ins) → Option R) : Option R :=
 code_writer_put_2 N 24 0 0 [] w_60 w_61 w_62 w_63 o_64 (fun r65 r66 =>
 code_writer_both_2_c17 F N jump_59 r65 w_60 w_61 w_62 w_63 r66 (fun y81 =>
 kp0 y81))
noncomputable def code_writer_both_2_c12 (F : Fam_code_writer_expr_2) {R : Type} (N : Nat) (first_42 : Int) (w_43 w_44 w_45 : List (List UInt8)) (w_46 : List Node) (o_47 : List Ins) (e_48 e_49 : Int) (e_50 : List UInt8) (e_51 : List Expr) (e_52 : Int) (kp0 : (List Ins) → Option R) : Option R :=
 code_writer_push_2 N 1 w_43 w_44 w_45 w_46 o_47 (fun r53 =>
 code_writer_put_2 N 23 0 0 [] w_43 w_44 w_45 w_46 r53 (fun r54 r55 =>
 code_writer_here N first_42 w_43 w_44 w_45 w_46 r55 (fun r56 =>
 (at? e_51 1).bind fun e57 =>
 F.code_writer_expr_2 _ e57.Kind e57.N e57.Name e57.Kids e57.At w_43 w_44 w_45 w_46 r56 (fun r58 =>
 code_writer_both_2_c16 F N r54 w_43 w_44 w_45 w_46 r58 (fun y82 =>
 kp0 y82)) (code_writer_both_2_c16 F N r54 w_43 w_44 w_45 w_46 r56 (fun y83 =>
 kp0 y83)))))
noncomputable def code_writer_both_2_c2 (F : Fam_code_writer_expr_2) {R : Type} (N : Nat) (w_3 w_4 w_5 : List (List UInt8)) (w_6 : List Node) (o_7 : List Ins) (e_8 e_9 : Int) (e_10 : List UInt8) (e_11 : List Expr) (e_12 : Int) (kp0 kp1 : (List Ins) → Option R) : Option R :=
 code_writer_put_2 N 24 0 0 [] w_3 w_4 w_5 w_6 o_7 (fun r13 r14 =>
 if (e_8 == 18) = true then
  ((at? e_11 1).bind fun e15 =>
  F.code_writer_expr_2 _ e15.Kind e15.N e15.Name e15.Kids e15.At w_3 w_4 w_5 w_6 r14 (fun r16 =>
  code_writer_both_2_c5 F N r13 w_3 w_4 w_5 w_6 r16 (fun y40 =>
  kp0 y40)) (code_writer_both_2_c5 F N r13 w_3 w_4 w_5 w_6 r14 (fun y41 =>
  kp0 y41)))
 else
  (code_writer_both_2_c12 F N r13 w_3 w_4 w_5 w_6 r14 e_8 e_9 e_10 e_11 e_12 (fun y84 =>
  kp1 y84)))
noncomputable def code_writer_both_2_d (F : Fam_code_writer_expr_2) {R : Type} (N : Nat) (Kind N_ : Int) (Name : List UInt8) (Kids : List Expr) (At : Int) (Vars Ports Timers : List (List UInt8)) (Nodes : List Node) (c : List Ins) (k0 : (List Ins) → Option R) : Option R :=
 (at? Kids 0).bind fun e1 =>
 F.code_writer_expr_2 _ e1.Kind e1.N e1.Name e1.Kids e1.At Vars Ports Timers Nodes c (fun r2 =>
 code_writer_both_2_c2 F N Vars Ports Timers Nodes r2 Kind N_ Name Kids At (fun y85 =>
 k0 y85)
  (fun y86 =>
 k0 y86)) (code_writer_both_2_c2 F N Vars Ports Timers Nodes c Kind N_ Name Kids At (fun y87 =>
 k0 y87)
  (fun y88 =>
 k0 y88))
noncomputable def code_writer_both_2_D (F : Fam_code_writer_expr_2) (hF : Fam_code_writer_expr_2_ok F) (N : Nat) : FD E0 := { f := 101, fn := Try.f101, q := code_writer_both_2_q, cuts := [{ key := 7, live := [0, 4, 5], out := fun | .ret => ([], []) | _ => ([], []), q := ⟨[.p 0 0 0, .i .i64, .i .i64], [z4, .g, .rw .ins .own]⟩, G := fun R K a b c d e g h => code_writer_both_2_c7 F N a b c d e g h (pK ⟨[], [z4, .g, .rw .ins .own]⟩ (K .ret) c d e g) }, { key := 5, live := [0, 4], out := fun | .ret => ([], []) | _ => ([], []), q := ⟨[.p 0 0 0, .i .i64], [z4, .g, .rw .ins .own]⟩, G := fun R K a b c d e g => code_writer_both_2_c5 F N a b c d e g (pK ⟨[], [z4, .g, .rw .ins .own]⟩ (K .ret) b c d e) }, { key := 17, live := [0, 7, 8], out := fun | .normal => ([], []) | _ => ([], []), q := ⟨[.p 0 0 0, .i .i64, .i .i64], [z4, .g, .rw .ins .own]⟩, G := fun R K a b c d e g h => code_writer_both_2_c17 F N a b c d e g h (pK ⟨[], [z4, .g, .rw .ins .own]⟩ (K .normal) c d e g) }, { key := 16, live := [0, 7], out := fun | .normal => ([], []) | _ => ([], []), q := ⟨[.p 0 0 0, .i .i64], [z4, .g, .rw .ins .own]⟩, G := fun R K a b c d e g => code_writer_both_2_c16 F N a b c d e g (pK ⟨[], [z4, .g, .rw .ins .own]⟩ (K .normal) b c d e) }, { key := 12, live := [0, 3, 4], out := fun | .normal => ([], []) | _ => ([], []), q := ⟨[.p 0 0 0, .p 3 0 0, .i .i64], [z4, .g, .rw .ins .own, z0]⟩, G := fun R K a b c d e g h i j l m => code_writer_both_2_c12 F N a b c d e g h i j l m (pK ⟨[], [z4, .g, .rw .ins .own]⟩ (K .normal) b c d e) }, { key := 2, live := [0, 3], fix := [(⟨0, [4]⟩, .fresh .ins .own)], out := fun | .ret => ([], []) | .normal => ([], []) | _ => ([], []), q := ⟨[.p 0 0 0, .p 3 0 0], [z4, .g, .rw .ins .own, z0]⟩, G := fun R K a b c d e g h i j l => code_writer_both_2_c2 F N a b c d e g h i j l (pK ⟨[], [z4, .g, .rw .ins .own]⟩ (K .ret) a b c d) (pK ⟨[], [z4, .g, .rw .ins .own]⟩ (K .normal) a b c d) }], g := [⟨code_writer_expr_2_C F, hF.code_writer_expr_2⟩, code_writer_push_2_S N, code_writer_put_2_S N, code_writer_here_S N] }
theorem code_writer_both_2_okF (F : Fam_code_writer_expr_2) (hF : Fam_code_writer_expr_2_ok F) (N : Nat) : Ct.ok E0 ⟨(code_writer_both_2_D F hF N).f, (code_writer_both_2_D F hF N).q, fun R k a b c d e g h i j l => code_writer_both_2_d F N a b c d e g h i j l (oK ⟨.tp [], [z4, .g], [.rw .ins .own]⟩ k g h i j)⟩ := FD.ct e0 (code_writer_both_2_D F hF N) N (fun R k a b c d e g h i j l => code_writer_both_2_d F N a b c d e g h i j l (oK ⟨.tp [], [z4, .g], [.rw .ins .own]⟩ k g h i j))
noncomputable def Fam_code_writer_expr_2_next (F : Fam_code_writer_expr_2) (N : Nat) : Fam_code_writer_expr_2 where
 code_writer_expr_2 := fun R Kind N_ Name Kids At Vars Ports Timers Nodes c k0 k1 => code_writer_expr_2_d F N Kind N_ Name Kids At Vars Ports Timers Nodes c k0 k1
 code_writer_both_2 := fun R Kind N_ Name Kids At Vars Ports Timers Nodes c k0 => code_writer_both_2_d F N Kind N_ Name Kids At Vars Ports Timers Nodes c k0
noncomputable def Fam_code_writer_expr_2_at (N : Nat) : Nat → Fam_code_writer_expr_2
 | 0 => { code_writer_expr_2 := fun _ _ _ _ _ _ _ _ _ _ _ _ _ => none, code_writer_both_2 := fun _ _ _ _ _ _ _ _ _ _ _ _ => none }
 | d + 1 => Fam_code_writer_expr_2_next (Fam_code_writer_expr_2_at N d) N
theorem Fam_code_writer_expr_2_at_ok (N : Nat) : ∀ d, Fam_code_writer_expr_2_ok (Fam_code_writer_expr_2_at N d)
 | 0 => { code_writer_expr_2 := Ct.ok_none, code_writer_both_2 := Ct.ok_none }
 | d + 1 => { code_writer_expr_2 := code_writer_expr_2_okF _ (Fam_code_writer_expr_2_at_ok N d) N, code_writer_both_2 := code_writer_both_2_okF _ (Fam_code_writer_expr_2_at_ok N d) N }
noncomputable def code_writer_expr_2 {R : Type} (N : Nat) (Kind N_ : Int) (Name : List UInt8) (Kids : List Expr) (At : Int) (Vars Ports Timers : List (List UInt8)) (Nodes : List Node) (c : List Ins) (k0 : (List Ins) → Option R) (k1 : Option R) : Option R := (Fam_code_writer_expr_2_at N N).code_writer_expr_2 R Kind N_ Name Kids At Vars Ports Timers Nodes c k0 k1
noncomputable def code_writer_expr_2_S (N : Nat) : OC E0 := ⟨code_writer_expr_2_C (Fam_code_writer_expr_2_at N N), (Fam_code_writer_expr_2_at_ok N N).code_writer_expr_2⟩
noncomputable def code_writer_both_2 {R : Type} (N : Nat) (Kind N_ : Int) (Name : List UInt8) (Kids : List Expr) (At : Int) (Vars Ports Timers : List (List UInt8)) (Nodes : List Node) (c : List Ins) (k0 : (List Ins) → Option R) : Option R := (Fam_code_writer_expr_2_at N N).code_writer_both_2 R Kind N_ Name Kids At Vars Ports Timers Nodes c k0
structure Fam_code_writer_expr where
 code_writer_expr : (R : Type) → Int → Int → (List UInt8) → (List Expr) → Int → (List (List UInt8)) → (List (List UInt8)) → (List (List UInt8)) → (List Node) → ((List Ins) → Option R) → Option R
 code_writer_both : (R : Type) → Int → Int → (List UInt8) → (List Expr) → Int → (List (List UInt8)) → (List (List UInt8)) → (List (List UInt8)) → (List Node) → ((List Ins) → Option R) → Option R
def code_writer_expr_q : Pat S := ⟨[.p 0 0 0, y2], [z2]⟩
noncomputable def code_writer_expr_C (F : Fam_code_writer_expr) : Ct S := ⟨63, code_writer_expr_q, fun R k a b c d e g h i j => F.code_writer_expr R a b c d e g h i j (oK ⟨.tp [], [z3], [.rw .ins .own]⟩ k g h i j)⟩
def code_writer_both_q : Pat S := ⟨[.p 0 0 0, y2], [z2]⟩
noncomputable def code_writer_both_C (F : Fam_code_writer_expr) : Ct S := ⟨101, code_writer_both_q, fun R k a b c d e g h i j => F.code_writer_both R a b c d e g h i j (oK ⟨.tp [], [z3], [.rw .ins .own]⟩ k g h i j)⟩
structure Fam_code_writer_expr_ok (F : Fam_code_writer_expr) : Prop where
 code_writer_expr : (code_writer_expr_C F).ok E0
 code_writer_both : (code_writer_both_C F).ok E0
noncomputable def code_writer_expr_l1_b (F : Fam_code_writer_expr) {R : Type} (N : Nat) (v_35 : List Expr) (v_36 : Int) (w_38 w_39 w_40 : List (List UInt8)) (w_41 : List Node) (e_43 e_44 : Int) (e_45 : List UInt8) (e_46 : List Expr) (e_47 : Int) (kp0 : (List Ins) → Option R) (rec : Int → (List Ins) → Option R) (v_37 : Int) (o_42 : List Ins) : Option R :=
 if (decide (v_37 < v_36)) = true then
  ((at? v_35 v_37).bind fun e48 =>
 code_writer_expr_2 N e48.Kind e48.N e48.Name e48.Kids e48.At w_38 w_39 w_40 w_41 o_42 (fun r49 =>
 rec (IntKind.wrap .i64 (v_37 + 1)) r49) (rec (IntKind.wrap .i64 (v_37 + 1)) o_42))
 else
  (kp0 o_42)
noncomputable def code_writer_expr_l1 (F : Fam_code_writer_expr) {R : Type} (N : Nat) (v_35 : List Expr) (v_36 : Int) (w_38 w_39 w_40 : List (List UInt8)) (w_41 : List Node) (e_43 e_44 : Int) (e_45 : List UInt8) (e_46 : List Expr) (e_47 : Int) (kp0 : (List Ins) → Option R) : Nat → Int → (List Ins) → Option R
 | 0 => fun _ _ => none
 | n + 1 => fun v_37 o_42 => code_writer_expr_l1_b F N v_35 v_36 w_38 w_39 w_40 w_41 e_43 e_44 e_45 e_46 e_47 kp0 (code_writer_expr_l1 F N v_35 v_36 w_38 w_39 w_40 w_41 e_43 e_44 e_45 e_46 e_47 kp0 n) v_37 o_42
noncomputable def code_writer_expr_c18 (F : Fam_code_writer_expr) {R : Type} (N : Nat) (v_10 : Bool) (w_11 w_12 w_13 : List (List UInt8)) (w_14 : List Node) (e_15 e_16 : Int) (e_17 : List UInt8) (e_18 : List Expr) (e_19 : Int) (kp0 : (List Ins) → Option R) (kp1 : Option R) : Option R :=
 if v_10 = true then
  (if (((e_18.length : Nat) : Int) == 2) = true then
   (F.code_writer_both _ e_15 e_16 e_17 e_18 e_19 w_11 w_12 w_13 w_14 (fun r20 =>
   kp0 r20))
  else
   (kp1 ))
 else
  (code_writer_expr_l1 F N e_18 ((e_18.length : Nat) : Int) w_11 w_12 w_13 w_14 e_15 e_16 e_17 e_18 e_19 (fun y50 =>
  code_op N e_15 (fun r51 =>
  code_writer_put_2 N r51 0 0 [] w_11 w_12 w_13 w_14 y50 (fun r52 r53 =>
  kp0 r53))) N 0 ([] : List Ins))
noncomputable def code_writer_expr_d (F : Fam_code_writer_expr) {R : Type} (N : Nat) (Kind N_ : Int) (Name : List UInt8) (Kids : List Expr) (At : Int) (Vars Ports Timers : List (List UInt8)) (Nodes : List Node) (k0 : (List Ins) → Option R) : Option R :=
 if (Kind == 1) = true then
  (code_writer_push N N_ Vars Ports Timers Nodes (fun r1 =>
  k0 r1))
 else
  (if (Kind == 2) = true then
   (slices_Index_string N Vars Name (fun r2 =>
   code_writer_put N 2 r2 0 [] Vars Ports Timers Nodes (fun r3 r4 =>
   k0 r4)))
  else
   (if (Kind == 3) = true then
    (code_writer_put N 3 0 0 [] Vars Ports Timers Nodes (fun r5 r6 =>
    k0 r6))
   else
    (if (Kind == 4) = true then
     (flat_Find N Nodes Name (fun r7 =>
     code_writer_put N 4 r7 0 [] Vars Ports Timers Nodes (fun r8 r9 =>
     k0 r9)))
    else
     (if (Kind == 18) = true then
      (code_writer_expr_c18 F N (Kind == 18) Vars Ports Timers Nodes Kind N_ Name Kids At (fun y54 =>
      k0 y54)
       (k0 ([] : List Ins)))
     else
      (code_writer_expr_c18 F N (Kind == 19) Vars Ports Timers Nodes Kind N_ Name Kids At (fun y55 =>
      k0 y55)
       (k0 ([] : List Ins)))))))
noncomputable def code_writer_expr_D (F : Fam_code_writer_expr) (hF : Fam_code_writer_expr_ok F) (N : Nat) : FD E0 := { f := 63, fn := Try.f63, q := code_writer_expr_q, loops := [{ cur := 1, live := [0, 3, 9, 10, 11], fix := [(⟨0, [4]⟩, .row .ins .own)], out := fun | .exit 1 => ([0, 3], []) | _ => ([], []), q := ⟨[.p 0 0 0, .p 2 0 0, .t .expr, .i .i64, .i .i64], [z3, .rw .ins .own, z0]⟩, G := fun R K n a b c d e g h i j l m o p => code_writer_expr_l1 F N a b d e g h j l m o p (fun q => pK ⟨[.p 0 0 0, .p 2 0 0], [z3, .rw .ins .own, z0]⟩ (K (.exit 1)) d e g h q j l m o p) n c i, B := fun R K rec a b c d e g h i j l m o p => code_writer_expr_l1_b F N a b d e g h j l m o p (fun q => pK ⟨[.p 0 0 0, .p 2 0 0], [z3, .rw .ins .own, z0]⟩ (K (.exit 1)) d e g h q j l m o p) (fun c i => rec a b c d e g h i j l m o p) c i }], cuts := [{ key := 18, live := [0, 3, 62], out := fun | .normal => ([0], []) | _ => ([], []), q := ⟨[.p 0 0 0, .p 1 0 0, .b], [z2, z0]⟩, G := fun R K a b c d e g h i j l => code_writer_expr_c18 F N a b c d e g h i j l (pK ⟨[.p 0 0 0], [z3, .rw .ins .own]⟩ (K .normal) b c d e) (pK ⟨[.p 0 0 0], [z2]⟩ (K .normal) b c d e) }], g := [⟨code_writer_expr_C F, hF.code_writer_expr⟩, code_writer_expr_2_S N, slices_Index_string_S N, code_writer_push_S N, code_writer_put_S N, code_writer_put_2_S N, flat_Find_S N, ⟨code_writer_both_C F, hF.code_writer_both⟩, code_op_S N], exit := [(⟨0, [4]⟩, .fresh .ins .own)] }
noncomputable def code_writer_both_c7 (F : Fam_code_writer_expr) {R : Type} (N : Nat) (first_16 second_17 : Int) (w_18 w_19 w_20 : List (List UInt8)) (w_21 : List Node) (o_22 : List Ins) (kp0 : (List Ins) → Option R) : Option R :=
 code_writer_put_2 N 23 0 0 [] w_18 w_19 w_20 w_21 o_22 (fun r23 r24 =>
 code_writer_here N first_16 w_18 w_19 w_20 w_21 r24 (fun r25 =>
 code_writer_here N second_17 w_18 w_19 w_20 w_21 r25 (fun r26 =>
 code_writer_push_2 N 0 w_18 w_19 w_20 w_21 r26 (fun r27 =>
 code_writer_here N r23 w_18 w_19 w_20 w_21 r27 (fun r28 =>
 kp0 r28)))))
noncomputable def code_writer_both_c5 (F : Fam_code_writer_expr) {R : Type} (N : Nat) (first_7 : Int) (w_8 w_9 w_10 : List (List UInt8)) (w_11 : List Node) (o_12 : List Ins) (kp0 : (List Ins) → Option R) : Option R :=
 code_writer_put_2 N 24 0 0 [] w_8 w_9 w_10 w_11 o_12 (fun r13 r14 =>
 code_writer_push_2 N 1 w_8 w_9 w_10 w_11 r14 (fun r15 =>
 code_writer_both_c7 F N first_7 r13 w_8 w_9 w_10 w_11 r15 (fun y29 =>
 kp0 y29)))
noncomputable def code_writer_both_c17 (F : Fam_code_writer_expr) {R : Type} (N : Nat) (jump_57 second_58 : Int) (w_59 w_60 w_61 : List (List UInt8)) (w_62 : List Node) (o_63 : List Ins) (kp0 : (List Ins) → Option R) : Option R :=
 code_writer_push_2 N 1 w_59 w_60 w_61 w_62 o_63 (fun r64 =>
 code_writer_put_2 N 23 0 0 [] w_59 w_60 w_61 w_62 r64 (fun r65 r66 =>
 code_writer_here N second_58 w_59 w_60 w_61 w_62 r66 (fun r67 =>
 code_writer_push_2 N 0 w_59 w_60 w_61 w_62 r67 (fun r68 =>
 code_writer_here N jump_57 w_59 w_60 w_61 w_62 r68 (fun r69 =>
 code_writer_here N r65 w_59 w_60 w_61 w_62 r69 (fun r70 =>
 kp0 r70))))))
noncomputable def code_writer_both_c16 (F : Fam_code_writer_expr) {R : Type} (N : Nat) (jump_49 : Int) (w_50 w_51 w_52 : List (List UInt8)) (w_53 : List Node) (o_54 : List Ins) (kp0 : (List Ins) → Option R) : Option R :=
 code_writer_put_2 N 24 0 0 [] w_50 w_51 w_52 w_53 o_54 (fun r55 r56 =>
 code_writer_both_c17 F N jump_49 r55 w_50 w_51 w_52 w_53 r56 (fun y71 =>
 kp0 y71))
noncomputable def code_writer_both_c12 (F : Fam_code_writer_expr) {R : Type} (N : Nat) (first_32 : Int) (w_33 w_34 w_35 : List (List UInt8)) (w_36 : List Node) (o_37 : List Ins) (e_38 e_39 : Int) (e_40 : List UInt8) (e_41 : List Expr) (e_42 : Int) (kp0 : (List Ins) → Option R) : Option R :=
 code_writer_push_2 N 1 w_33 w_34 w_35 w_36 o_37 (fun r43 =>
 code_writer_put_2 N 23 0 0 [] w_33 w_34 w_35 w_36 r43 (fun r44 r45 =>
 code_writer_here N first_32 w_33 w_34 w_35 w_36 r45 (fun r46 =>
 (at? e_41 1).bind fun e47 =>
 code_writer_expr_2 N e47.Kind e47.N e47.Name e47.Kids e47.At w_33 w_34 w_35 w_36 r46 (fun r48 =>
 code_writer_both_c16 F N r44 w_33 w_34 w_35 w_36 r48 (fun y72 =>
 kp0 y72)) (code_writer_both_c16 F N r44 w_33 w_34 w_35 w_36 r46 (fun y73 =>
 kp0 y73)))))
noncomputable def code_writer_both_d (F : Fam_code_writer_expr) {R : Type} (N : Nat) (Kind N_ : Int) (Name : List UInt8) (Kids : List Expr) (At : Int) (Vars Ports Timers : List (List UInt8)) (Nodes : List Node) (k0 : (List Ins) → Option R) : Option R :=
 (at? Kids 0).bind fun e1 =>
 F.code_writer_expr _ e1.Kind e1.N e1.Name e1.Kids e1.At Vars Ports Timers Nodes (fun r2 =>
 code_writer_put_2 N 24 0 0 [] Vars Ports Timers Nodes r2 (fun r3 r4 =>
 if (Kind == 18) = true then
  ((at? Kids 1).bind fun e5 =>
  code_writer_expr_2 N e5.Kind e5.N e5.Name e5.Kids e5.At Vars Ports Timers Nodes r4 (fun r6 =>
  code_writer_both_c5 F N r3 Vars Ports Timers Nodes r6 (fun y30 =>
  k0 y30)) (code_writer_both_c5 F N r3 Vars Ports Timers Nodes r4 (fun y31 =>
  k0 y31)))
 else
  (code_writer_both_c12 F N r3 Vars Ports Timers Nodes r4 Kind N_ Name Kids At (fun y74 =>
  k0 y74))))
noncomputable def code_writer_both_D (F : Fam_code_writer_expr) (hF : Fam_code_writer_expr_ok F) (N : Nat) : FD E0 := { f := 101, fn := Try.f101, q := code_writer_both_q, cuts := [{ key := 7, live := [0, 4, 5], out := fun | .ret => ([], []) | _ => ([], []), q := ⟨[.p 0 0 0, .i .i64, .i .i64], [z3, .rw .ins .own]⟩, G := fun R K a b c d e g h => code_writer_both_c7 F N a b c d e g h (pK ⟨[], [z3, .rw .ins .own]⟩ (K .ret) c d e g) }, { key := 5, live := [0, 4], out := fun | .ret => ([], []) | _ => ([], []), q := ⟨[.p 0 0 0, .i .i64], [z3, .rw .ins .own]⟩, G := fun R K a b c d e g => code_writer_both_c5 F N a b c d e g (pK ⟨[], [z3, .rw .ins .own]⟩ (K .ret) b c d e) }, { key := 17, live := [0, 7, 8], out := fun | .normal => ([], []) | _ => ([], []), q := ⟨[.p 0 0 0, .i .i64, .i .i64], [z3, .rw .ins .own]⟩, G := fun R K a b c d e g h => code_writer_both_c17 F N a b c d e g h (pK ⟨[], [z3, .rw .ins .own]⟩ (K .normal) c d e g) }, { key := 16, live := [0, 7], out := fun | .normal => ([], []) | _ => ([], []), q := ⟨[.p 0 0 0, .i .i64], [z3, .rw .ins .own]⟩, G := fun R K a b c d e g => code_writer_both_c16 F N a b c d e g (pK ⟨[], [z3, .rw .ins .own]⟩ (K .normal) b c d e) }, { key := 12, live := [0, 3, 4], out := fun | .normal => ([], []) | _ => ([], []), q := ⟨[.p 0 0 0, .p 2 0 0, .i .i64], [z3, .rw .ins .own, z0]⟩, G := fun R K a b c d e g h i j l m => code_writer_both_c12 F N a b c d e g h i j l m (pK ⟨[], [z3, .rw .ins .own]⟩ (K .normal) b c d e) }], g := [⟨code_writer_expr_C F, hF.code_writer_expr⟩, code_writer_expr_2_S N, code_writer_push_2_S N, code_writer_put_2_S N, code_writer_here_S N] }
noncomputable def Fam_code_writer_expr_next (F : Fam_code_writer_expr) (N : Nat) : Fam_code_writer_expr where
 code_writer_expr := fun R Kind N_ Name Kids At Vars Ports Timers Nodes k0 => code_writer_expr_d F N Kind N_ Name Kids At Vars Ports Timers Nodes k0
 code_writer_both := fun R Kind N_ Name Kids At Vars Ports Timers Nodes k0 => code_writer_both_d F N Kind N_ Name Kids At Vars Ports Timers Nodes k0
noncomputable def Fam_code_writer_expr_at (N : Nat) : Nat → Fam_code_writer_expr
 | 0 => { code_writer_expr := fun _ _ _ _ _ _ _ _ _ _ _ => none, code_writer_both := fun _ _ _ _ _ _ _ _ _ _ _ => none }
 | d + 1 => Fam_code_writer_expr_next (Fam_code_writer_expr_at N d) N
noncomputable def code_writer_expr {R : Type} (N : Nat) (Kind N_ : Int) (Name : List UInt8) (Kids : List Expr) (At : Int) (Vars Ports Timers : List (List UInt8)) (Nodes : List Node) (k0 : (List Ins) → Option R) : Option R := (Fam_code_writer_expr_at N N).code_writer_expr R Kind N_ Name Kids At Vars Ports Timers Nodes k0
noncomputable def code_writer_both {R : Type} (N : Nat) (Kind N_ : Int) (Name : List UInt8) (Kids : List Expr) (At : Int) (Vars Ports Timers : List (List UInt8)) (Nodes : List Node) (k0 : (List Ins) → Option R) : Option R := (Fam_code_writer_expr_at N N).code_writer_both R Kind N_ Name Kids At Vars Ports Timers Nodes k0
def z5 : ShO S := .bx [.i .i64, .i .i64, .i .i64, .st]
noncomputable def code_Most_l2_b {R : Type} (N : Nat) (sum_24 at_26 : Int) (v_27 : List Ins) (v_28 v_29 i_32 i_33 i_34 : Int) (i_35 : List UInt8) (kp0 : Int → (List Int) → (List Int) → Option R) (rec : Int → (List Int) → (List Int) → Option R) (times_25 : Int) (ends_30 was_31 : List Int) : Option R :=
 (ifB (decide (((ends_30.length : Nat) : Int) > 0)) true (if (0 : Int) ≤ IntKind.wrap .i64 (((ends_30.length : Nat) : Int) - 1) ∧ IntKind.wrap .i64 (((ends_30.length : Nat) : Int) - 1) < (ends_30.length : Int) then (match ends_30[(IntKind.wrap .i64 (((ends_30.length : Nat) : Int) - 1)).toNat]? with
  | some e36 => (some (decide (e36 ≤ at_26)))
  | none => none) else none) (some false)).bind fun c37 =>
 if c37 = true then
  (if (0 : Int) ≤ IntKind.wrap .i64 (((was_31.length : Nat) : Int) - 1) ∧ IntKind.wrap .i64 (((was_31.length : Nat) : Int) - 1) < (was_31.length : Int) then (match was_31[(IntKind.wrap .i64 (((was_31.length : Nat) : Int) - 1)).toNat]? with
  | some e38 => (if (0 : Int) ≤ 0 ∧ 0 ≤ IntKind.wrap .i64 (((ends_30.length : Nat) : Int) - 1) ∧ IntKind.wrap .i64 (((ends_30.length : Nat) : Int) - 1) ≤ ((ends_30.length : Nat) : Int) then (if (0 : Int) ≤ 0 ∧ 0 ≤ IntKind.wrap .i64 (((was_31.length : Nat) : Int) - 1) ∧ IntKind.wrap .i64 (((was_31.length : Nat) : Int) - 1) ≤ ((was_31.length : Nat) : Int) then (rec e38 (ends_30.take ((IntKind.wrap .i64 (((ends_30.length : Nat) : Int) - 1)).toNat - (Int.toNat 0))) (was_31.take ((IntKind.wrap .i64 (((was_31.length : Nat) : Int) - 1)).toNat - (Int.toNat 0)))) else none) else none)
  | none => none) else none)
 else
  (kp0 times_25 ends_30 was_31)
noncomputable def code_Most_l2 {R : Type} (N : Nat) (sum_24 at_26 : Int) (v_27 : List Ins) (v_28 v_29 i_32 i_33 i_34 : Int) (i_35 : List UInt8) (kp0 : Int → (List Int) → (List Int) → Option R) : Nat → Int → (List Int) → (List Int) → Option R
 | 0 => fun _ _ _ => none
 | n + 1 => fun times_25 ends_30 was_31 => code_Most_l2_b N sum_24 at_26 v_27 v_28 v_29 i_32 i_33 i_34 i_35 kp0 (code_Most_l2 N sum_24 at_26 v_27 v_28 v_29 i_32 i_33 i_34 i_35 kp0 n) times_25 ends_30 was_31
noncomputable def code_Most_l0_b {R : Type} (N : Nat) (v_3 : List Ins) (v_4 : Int) (kp0 : Int → Option R) (rec : Int → Int → Int → (List Int) → (List Int) → Option R) (sum_1 times_2 v_5 : Int) (ends_6 was_7 : List Int) : Option R :=
 if (decide (v_5 < v_4)) = true then
  ((at? v_3 v_5).bind fun e8 =>
 code_Most_l2 N sum_1 v_5 v_3 v_4 v_5 e8.Op e8.A e8.N e8.S (fun y39 y40 y41 =>
 if (e8.Op == 25) = true then
  (if y40.length + [e8.A].length ≤ maxRow then (if y41.length + [y39].length ≤ maxRow then (rec (IntKind.wrap .i64 (sum_1 + y39)) (IntKind.wrap .i64 (y39 * e8.N)) (IntKind.wrap .i64 (v_5 + 1)) (y40 ++ [e8.A]) (y41 ++ [y39])) else none) else none)
 else
  (rec (IntKind.wrap .i64 (sum_1 + y39)) y39 (IntKind.wrap .i64 (v_5 + 1)) y40 y41)) N times_2 ends_6 was_7)
 else
  (kp0 sum_1)
noncomputable def code_Most_l0 {R : Type} (N : Nat) (v_3 : List Ins) (v_4 : Int) (kp0 : Int → Option R) : Nat → Int → Int → Int → (List Int) → (List Int) → Option R
 | 0 => fun _ _ _ _ _ => none
 | n + 1 => fun sum_1 times_2 v_5 ends_6 was_7 => code_Most_l0_b N v_3 v_4 kp0 (code_Most_l0 N v_3 v_4 kp0 n) sum_1 times_2 v_5 ends_6 was_7
noncomputable def code_Most {R : Type} (N : Nat) (c : List Ins) (k0 : Int → Option R) : Option R :=
 code_Most_l0 N c ((c.length : Nat) : Int) (fun y42 =>
 k0 y42) N 0 1 0 ([] : List Int) ([] : List Int)
noncomputable def code_Most_D (N : Nat) : FD E0 := { f := 26, fn := Try.f26, q := ⟨[.t .ins], []⟩, loops := [{ cur := 2, live := [3, 4, 5, 6, 7, 8, 9, 10, 11], fix := [(⟨5, []⟩, .fresh .int .own), (⟨6, []⟩, .fresh .i64 .own)], out := fun | .exit 2 => ([3, 4, 5, 6, 8, 9, 10, 11], []) | _ => ([], []), q := ⟨[.i .i64, .i .i64, .sw 0, .sw 1, .i .i64, .p 2 0 0, .t .ins, .i .i64, .i .i64], [.rw .int .own, .rw .i64 .own, z5]⟩, G := fun R K n a b c d e g h i j l m o => code_Most_l2 N a c d e g j l m o (fun p q s => pK ⟨[.i .i64, .i .i64, .sw 0, .sw 1, .p 2 0 0, .t .ins, .i .i64, .i .i64], [.rw .int .own, .rw .i64 .own, z5]⟩ (K (.exit 2)) a p d e g q s j l m o) n b h i, B := fun R K rec a b c d e g h i j l m o => code_Most_l2_b N a c d e g j l m o (fun p q s => pK ⟨[.i .i64, .i .i64, .sw 0, .sw 1, .p 2 0 0, .t .ins, .i .i64, .i .i64], [.rw .int .own, .rw .i64 .own, z5]⟩ (K (.exit 2)) a p d e g q s j l m o) (fun b h i => rec a b c d e g h i j l m o) b h i }, { cur := 0, live := [3, 4, 5, 6, 9, 10, 11], fix := [(⟨5, []⟩, .row .int .own), (⟨6, []⟩, .row .i64 .own)], out := fun | .exit 0 => ([3], []) | _ => ([], []), q := ⟨[.i .i64, .i .i64, .sw 0, .sw 1, .t .ins, .i .i64, .i .i64], [.rw .int .own, .rw .i64 .own]⟩, G := fun R K n a b c d e g h => code_Most_l0 N c d (pK ⟨[.i .i64], []⟩ (K (.exit 0))) n a b e g h, B := fun R K rec a b c d e g h => code_Most_l0_b N c d (pK ⟨[.i .i64], []⟩ (K (.exit 0))) (fun a b e g h => rec a b c d e g h) a b e g h }], mode := fun | 54 => .own | 55 => .own | 58 => .own | 59 => .own | _ => .app }
noncomputable def code_Most_S (N : Nat) : OC E0 := ⟨_, FD.ct e0 (code_Most_D N) N (fun R k a => code_Most N a (oK ⟨.i .i64, [], []⟩ k))⟩
noncomputable def r16_Times_l0_b {R : Type} (N : Nat) (c_2 : List Ins) (at_3 : Int) (kp0 : Int → Option R) (rec : Int → Int → Option R) (t_4 i_5 : Int) : Option R :=
 if (decide (i_5 < at_3)) = true then
  ((at? c_2 i_5).bind fun e6 =>
 (ifB (e6.Op == 25) true ((at? c_2 i_5).bind fun e7 =>
 some (decide (at_3 < e7.A))) (some false)).bind fun c8 =>
 if c8 = true then
  ((at? c_2 i_5).bind fun e9 =>
  rec (IntKind.wrap .i64 (t_4 * e9.N)) (IntKind.wrap .i64 (i_5 + 1)))
 else
  (rec t_4 (IntKind.wrap .i64 (i_5 + 1))))
 else
  (kp0 t_4)
noncomputable def r16_Times_l0 {R : Type} (N : Nat) (c_2 : List Ins) (at_3 : Int) (kp0 : Int → Option R) : Nat → Int → Int → Option R
 | 0 => fun _ _ => none
 | n + 1 => fun t_4 i_5 => r16_Times_l0_b N c_2 at_3 kp0 (r16_Times_l0 N c_2 at_3 kp0 n) t_4 i_5
noncomputable def r16_Times {R : Type} (N : Nat) (c : List Ins) (at_ : Int) (k0 : Int → Option R) : Option R :=
 (ifB (decide (at_ < 0)) false (some (decide (at_ ≥ ((c.length : Nat) : Int)))) (some true)).bind fun c1 =>
 if c1 = true then
  (k0 0)
 else
  (r16_Times_l0 N c at_ (fun y10 =>
 k0 y10) N 1 0)
noncomputable def r16_Times_D (N : Nat) : FD E0 := { f := 60, fn := Try.f60, q := ⟨[.t .ins, .i .i64], []⟩, loops := [{ cur := 0, live := [0, 1, 5, 6], out := fun | .exit 0 => ([5], []) | _ => ([], []), q := ⟨[.t .ins, .i .i64, .i .i64, .i .i64], []⟩, G := fun R K n a b c d => r16_Times_l0 N a b (pK ⟨[.i .i64], []⟩ (K (.exit 0))) n c d, B := fun R K rec a b c d => r16_Times_l0_b N a b (pK ⟨[.i .i64], []⟩ (K (.exit 0))) (rec a b) c d }] }
noncomputable def r16_Times_S (N : Nat) : OC E0 := ⟨_, FD.ct e0 (r16_Times_D N) N (fun R k a b => r16_Times N a b (oK ⟨.i .i64, [], []⟩ k))⟩
noncomputable def r16_Most_l0_b {R : Type} (N : Nat) (c_1 : List Ins) (kp0 : Int → Option R) (rec : Int → Int → Option R) (n_2 i_3 : Int) : Option R :=
 if (decide (i_3 < ((c_1.length : Nat) : Int))) = true then
  (r16_Times N c_1 i_3 (fun r4 =>
 rec (IntKind.wrap .i64 (n_2 + r4)) (IntKind.wrap .i64 (i_3 + 1))))
 else
  (kp0 n_2)
noncomputable def r16_Most_l0 {R : Type} (N : Nat) (c_1 : List Ins) (kp0 : Int → Option R) : Nat → Int → Int → Option R
 | 0 => fun _ _ => none
 | n + 1 => fun n_2 i_3 => r16_Most_l0_b N c_1 kp0 (r16_Most_l0 N c_1 kp0 n) n_2 i_3
noncomputable def r16_Most {R : Type} (N : Nat) (c : List Ins) (k0 : Int → Option R) : Option R :=
 r16_Most_l0 N c (fun y5 =>
 k0 y5) N 0 0
noncomputable def r16_Most_D (N : Nat) : FD E0 := { f := 35, fn := Try.f35, q := ⟨[.t .ins], []⟩, loops := [{ cur := 0, live := [0, 3, 4], out := fun | .exit 0 => ([3], []) | _ => ([], []), q := ⟨[.t .ins, .i .i64, .i .i64], []⟩, G := fun R K n a b c => r16_Most_l0 N a (pK ⟨[.i .i64], []⟩ (K (.exit 0))) n b c, B := fun R K rec a b c => r16_Most_l0_b N a (pK ⟨[.i .i64], []⟩ (K (.exit 0))) (rec a) b c }], g := [r16_Times_S N] }
noncomputable def r16_Most_S (N : Nat) : OC E0 := ⟨_, FD.ct e0 (r16_Most_D N) N (fun R k a => r16_Most N a (oK ⟨.i .i64, [], []⟩ k))⟩
noncomputable def r37_Row_Next {R : Type} (N : Nat) (n_ : Int) (L : List Int) (At : Int) (k0 : Int → Int → Option R) : Option R :=
 if (decide (At ≥ ((L.length : Nat) : Int))) = true then
  (k0 0 At)
 else
  ((at? L (IntKind.wrap .i64 ((IntKind.wrap .i64 (At + 1)) - 1))).bind fun e1 =>
 r37_Place N e1 n_ (fun r2 =>
 k0 r2 (IntKind.wrap .i64 (At + 1))))
noncomputable def r37_Row_Next_D (N : Nat) : FD E0 := { f := 22, fn := Try.f22, q := ⟨[.p 0 0 0, .i .i64], [.bx [.t .int, .i .i64]]⟩, g := [r37_Place_S N] }
noncomputable def r37_Row_Next_S (N : Nat) : OC E0 := ⟨_, FD.ct e0 (r37_Row_Next_D N) N (fun R k a b c => r37_Row_Next N a b c (fun d => oK ⟨.i .i64, [.bx [.t .int, .i .i64]], []⟩ k d b))⟩
noncomputable def r37_pick {R : Type} (N : Nat) (l : List (List UInt8)) (or_ : List UInt8) (L : List Int) (At : Int) (k0 : (List UInt8) → Int → Option R) : Option R :=
 if (((l.length : Nat) : Int) == 0) = true then
  (k0 or_ At)
 else
  (r37_Row_Next N ((l.length : Nat) : Int) L At (fun r1 r2 =>
 (at? l r1).bind fun e3 =>
 k0 e3 r2))
noncomputable def r37_pick_D (N : Nat) : FD E0 := { f := 23, fn := Try.f23, q := ⟨[.p 0 0 0, .t .str, .st], [.bx [.t .int, .i .i64]]⟩, g := [r37_Row_Next_S N] }
noncomputable def r37_pick_S (N : Nat) : OC E0 := ⟨_, FD.ct e0 (r37_pick_D N) N (fun R k a b c d => r37_pick N a b c d (fun e => oK ⟨.st, [.bx [.t .int, .i .i64]], []⟩ k e c))⟩
structure Fam_r37_Expr where
 r37_Expr : (R : Type) → (List (List UInt8)) → (List (List UInt8)) → (List (List UInt8)) → (List (List UInt8)) → Int → (List Int) → Int → (Int → Int → (List UInt8) → (List Expr) → Int → Int → Option R) → Option R
def r37_Expr_q : Pat S := ⟨[.p 0 0 0, y0, .i .i64], [.bx [.t .int, .i .i64]]⟩
noncomputable def r37_Expr_C (F : Fam_r37_Expr) : Ct S := ⟨15, r37_Expr_q, fun R k a b c d e g h => F.r37_Expr R a b c d e g h (fun i j l m o => oK ⟨y2, [.bx [.t .int, .i .i64]], []⟩ k i j l m o g)⟩
structure Fam_r37_Expr_ok (F : Fam_r37_Expr) : Prop where
 r37_Expr : (r37_Expr_C F).ok E0
def z6 : ShO S := .bx [.i .i64, .i .i64, .st, .ns, .i .i64]
def z7 : ShO S := .bx [.i .i64, .i .i64, .st, .sw 2, .i .i64]
def z8 : ShO S := .bx [.t .str, .t .str, .t .str, .t .str]
noncomputable def r37_Expr_c4 (F : Fam_r37_Expr) {R : Type} (N : Nat) (deep_4 k_5 : Int) (r_6 : List Int) (r_7 : Int) (s_8 s_9 s_10 s_11 : List (List UInt8)) (v_12 v_13 : Int) (v_14 : List UInt8) (v_15 : Int) (kp0 : Int → Int → Int → (List UInt8) → Int → Option R) (kp1 : Int → Int → Int → (List UInt8) → Int → (List Expr) → Option R) : Option R :=
 if (decide (k_5 < 2)) = true then
  (r37_Row_Next N 6 r_6 r_7 (fun r16 r17 =>
  (at? [0, 1, 2, 7, 1099511627776, 9223372036854775807] r16).bind fun e18 =>
  kp0 r17 1 e18 [] 0))
 else
  ((ifB (k_5 == 2) true (some (decide (((s_8.length : Nat) : Int) > 0))) (some false)).bind fun c19 =>
  if c19 = true then
   (r37_pick N s_8 [] r_6 r_7 (fun r20 r21 =>
   kp0 r21 2 0 r20 0))
  else
   ((ifB (k_5 == 3) true (some (decide (((s_11.length : Nat) : Int) > 0))) (some false)).bind fun c22 =>
   if c22 = true then
    (r37_pick N s_11 [] r_6 r_7 (fun r23 r24 =>
    kp0 r24 4 0 r23 0))
   else
    (if (decide (k_5 < 6)) = true then
     (kp0 r_7 3 0 [] 0)
    else
     (if (k_5 == 6) = true then
      (r37_Row_Next N 2 r_6 r_7 (fun r25 r26 =>
      F.r37_Expr _ s_8 s_9 s_10 s_11 (IntKind.wrap .i64 (deep_4 - 1)) r_6 r26 (fun r27 r28 r29 r30 r31 r32 =>
      kp1 r32 (IntKind.wrap .i64 (5 + r25)) 0 [] 0 [(⟨r27, r28, r29, r30, r31⟩ : Expr)])))
     else
      (F.r37_Expr _ s_8 s_9 s_10 s_11 (IntKind.wrap .i64 (deep_4 - 1)) r_6 r_7 (fun r33 r34 r35 r36 r37 r38 =>
 r37_Row_Next N 13 r_6 r38 (fun r39 r40 =>
 F.r37_Expr _ s_8 s_9 s_10 s_11 (IntKind.wrap .i64 (deep_4 - 1)) r_6 r40 (fun r41 r42 r43 r44 r45 r46 =>
 kp1 r46 (IntKind.wrap .i64 (7 + r39)) 0 [] 0 [(⟨r33, r34, r35, r36, r37⟩ : Expr), (⟨r41, r42, r43, r44, r45⟩ : Expr)]))))))))
noncomputable def r37_Expr_d (F : Fam_r37_Expr) {R : Type} (N : Nat) (Vars Ports Timers States : List (List UInt8)) (deep : Int) (L : List Int) (At : Int) (k0 : Int → Int → (List UInt8) → (List Expr) → Int → Int → Option R) : Option R :=
 r37_Row_Next N 14 L At (fun r1 r2 =>
 (ifB (deep == 0) true (some (decide (r1 > 5))) (some false)).bind fun c3 =>
 if c3 = true then
  (r37_Expr_c4 F N deep (Int.tmod r1 6) L r2 Vars Ports Timers States 0 0 [] 0 (fun y47 y48 y49 y50 y51 =>
  k0 y48 y49 y50 ([] : List Expr) y51 y47)
   (fun y52 y53 y54 y55 y56 y57 =>
  k0 y53 y54 y55 y57 y56 y52))
 else
  (r37_Expr_c4 F N deep r1 L r2 Vars Ports Timers States 0 0 [] 0 (fun y58 y59 y60 y61 y62 =>
  k0 y59 y60 y61 ([] : List Expr) y62 y58)
   (fun y63 y64 y65 y66 y67 y68 =>
  k0 y64 y65 y66 y68 y67 y63)))
noncomputable def r37_Expr_D (F : Fam_r37_Expr) (hF : Fam_r37_Expr_ok F) (N : Nat) : FD E0 := { f := 15, fn := Try.f15, q := r37_Expr_q, cuts := [{ key := 4, live := [0, 2, 4, 6, 7], out := fun | .ret => ([6], []) | _ => ([], []), q := ⟨[.p 0 0 0, .i .i64, .p 1 0 0, .p 2 0 0, .i .i64], [.bx [.t .int, .i .i64], z8, z6]⟩, G := fun R K a b c d e g h i j l m o => r37_Expr_c4 F N a b c d e g h i j l m o (pK ⟨[.p 1 0 0], [.bx [.t .int, .i .i64], z6]⟩ (K .ret) c) (pK ⟨[.p 1 0 0], [.bx [.t .int, .i .i64], z7, .rw .expr .app]⟩ (K .ret) c) }], g := [⟨r37_Expr_C F, hF.r37_Expr⟩, r37_Row_Next_S N, r37_pick_S N], exit := [(⟨6, [3]⟩, .tree .expr)] }
theorem r37_Expr_okF (F : Fam_r37_Expr) (hF : Fam_r37_Expr_ok F) (N : Nat) : Ct.ok E0 ⟨(r37_Expr_D F hF N).f, (r37_Expr_D F hF N).q, fun R k a b c d e g h => r37_Expr_d F N a b c d e g h (fun i j l m o => oK ⟨y2, [.bx [.t .int, .i .i64]], []⟩ k i j l m o g)⟩ := FD.ct e0 (r37_Expr_D F hF N) N (fun R k a b c d e g h => r37_Expr_d F N a b c d e g h (fun i j l m o => oK ⟨y2, [.bx [.t .int, .i .i64]], []⟩ k i j l m o g))
noncomputable def Fam_r37_Expr_next (F : Fam_r37_Expr) (N : Nat) : Fam_r37_Expr where
 r37_Expr := fun R Vars Ports Timers States deep L At k0 => r37_Expr_d F N Vars Ports Timers States deep L At k0
noncomputable def Fam_r37_Expr_at (N : Nat) : Nat → Fam_r37_Expr
 | 0 => { r37_Expr := fun _ _ _ _ _ _ _ _ _ => none }
 | d + 1 => Fam_r37_Expr_next (Fam_r37_Expr_at N d) N
theorem Fam_r37_Expr_at_ok (N : Nat) : ∀ d, Fam_r37_Expr_ok (Fam_r37_Expr_at N d)
 | 0 => { r37_Expr := Ct.ok_none }
 | d + 1 => { r37_Expr := r37_Expr_okF _ (Fam_r37_Expr_at_ok N d) N }
noncomputable def r37_Expr {R : Type} (N : Nat) (Vars Ports Timers States : List (List UInt8)) (deep : Int) (L : List Int) (At : Int) (k0 : Int → Int → (List UInt8) → (List Expr) → Int → Int → Option R) : Option R := (Fam_r37_Expr_at N N).r37_Expr R Vars Ports Timers States deep L At k0
noncomputable def r37_Expr_S (N : Nat) : OC E0 := ⟨r37_Expr_C (Fam_r37_Expr_at N N), (Fam_r37_Expr_at_ok N N).r37_Expr⟩
def z9 : ShO S := .bx [.i .i64, .sw 1, .ns, .ns, .i .i64, .i .i64, .ns, .i .i64, .ns, .ns, .i .i64]
def z22 : ShO S := .bx [.i .i64, .sw 1, .sw 2, .sw 5, .i .i64, .i .i64, .ns, .i .i64, .sw 6, .ns, .i .i64]
def z24 : ShO S := .bx [.i .i64, .sw 1, .sw 2, .sw 3, .i .i64, .i .i64, .ns, .i .i64, .sw 5, .sw 6, .i .i64]
def z25 : ShO S := .bx [.i .i64, .sw 1, .sw 2, .sw 3, .i .i64, .i .i64, .ns, .i .i64, .sw 6, .sw 5, .i .i64]
def y5 : Sh S := .ag [.i .i64, .t .i64, .t .msg, .t .effc, .i .i64, .i .i64]
end Ef
