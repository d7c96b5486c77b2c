/- EP: a part of the proof of EffectHolds: lemmas on the evaluator and on the functions that the law reaches. -/
import Derived.Test.YtfpfmibcnldepaaGreatES3
set_option maxRecDepth 100000
set_option linter.unusedVariables false
set_option linter.unusedSimpArgs false
namespace Ef
open Go TE Go.Proofs
def y0 : Sh S := .ag [.t .str, .t .str, .t .str, .t .str]
def y1 : Sh S := .ag [.t .str, .t .str, .t .str, .t .node]
noncomputable def l30_named {R : Type} (N : Nat)  (k0 : (List (List UInt8)) → (List (List UInt8)) → (List (List UInt8)) → (List (List UInt8)) → (List (List UInt8)) → (List (List UInt8)) → (List (List UInt8)) → (List Node) → (List (List UInt8)) → (List (List UInt8)) → (List (List UInt8)) → (List Node) → Option R) : Option R :=
 k0 ([[120], [121]]) ([[112], [113]]) ([[116]]) ([] : List (List UInt8)) ([[120], [121]]) ([[112], [113]]) ([[116]]) ([] : List Node) ([[120], [121]]) ([[112], [113]]) ([[116]]) ([] : List Node)
noncomputable def l30_named_D (N : Nat) : FD E0 := { f := 5, fn := Tryz.f5, q := ⟨[], []⟩, exit := [(⟨0, [0]⟩, .tree .str), (⟨0, [1]⟩, .tree .str), (⟨0, [2]⟩, .tree .str), (⟨0, [3]⟩, .tree .str), (⟨1, [0]⟩, .tree .str), (⟨1, [1]⟩, .tree .str), (⟨1, [2]⟩, .tree .str), (⟨1, [3]⟩, .tree .node), (⟨2, [0]⟩, .tree .str), (⟨2, [1]⟩, .tree .str), (⟨2, [2]⟩, .tree .str), (⟨2, [3]⟩, .tree .node)] }
noncomputable def l30_named_S (N : Nat) : OC E0 := ⟨_, FD.ct e0 (l30_named_D N) N (fun R k => l30_named N (oK ⟨.tp [y0, y1, y1], [], []⟩ k))⟩
noncomputable def r37_Place {R : Type} (N : Nat) (v n_ : Int) (k0 : Int → Option R) : Option R :=
 if n_ = 0 then none else (if (decide ((Int.tmod v n_) < 0)) = true then
  (k0 (IntKind.wrap .i64 ((Int.tmod v n_) + n_)))
 else
  (k0 (Int.tmod v n_)))
noncomputable def r37_Place_D (N : Nat) : FD E0 := { f := 7, fn := Tryz.f7, q := ⟨[.i .i64, .i .i64], []⟩ }
noncomputable def r37_Place_S (N : Nat) : OC E0 := ⟨_, FD.ct e0 (r37_Place_D N) N (fun R k a b => r37_Place N a b (oK ⟨.i .i64, [], []⟩ k))⟩
def y2 : Sh S := .ag [.i .i64, .i .i64, .st, .t .expr, .i .i64]
structure Fam_effect_may where
 effect_may : (R : Type) → Int → Int → (List UInt8) → (List Expr) → Int → (Bool → Option R) → Option R
 slices_ContainsFunc_Expr : (R : Type) → (List Expr) → (Bool → Option R) → Option R
 slices_IndexFunc_Expr : (R : Type) → (List Expr) → (Int → Option R) → Option R
def effect_may_q : Pat S := ⟨[y2], []⟩
noncomputable def effect_may_C (F : Fam_effect_may) : Ct S := ⟨32, effect_may_q, fun R k a b c d e => F.effect_may R a b c d e (oK ⟨.b, [], []⟩ k)⟩
def slices_ContainsFunc_Expr_q : Pat S := ⟨[.t .expr, .fn 32 []], []⟩
noncomputable def slices_ContainsFunc_Expr_C (F : Fam_effect_may) : Ct S := ⟨54, slices_ContainsFunc_Expr_q, fun R k a => F.slices_ContainsFunc_Expr R a (oK ⟨.b, [], []⟩ k)⟩
def slices_IndexFunc_Expr_q : Pat S := ⟨[.t .expr, .fn 32 []], []⟩
noncomputable def slices_IndexFunc_Expr_C (F : Fam_effect_may) : Ct S := ⟨83, slices_IndexFunc_Expr_q, fun R k a => F.slices_IndexFunc_Expr R a (oK ⟨.i .i64, [], []⟩ k)⟩
structure Fam_effect_may_ok (F : Fam_effect_may) : Prop where
 effect_may : (effect_may_C F).ok E0
 slices_ContainsFunc_Expr : (slices_ContainsFunc_Expr_C F).ok E0
 slices_IndexFunc_Expr : (slices_IndexFunc_Expr_C F).ok E0
def z0 : ShO S := .bx [.i .i64, .i .i64, .st, .t .expr, .i .i64]
noncomputable def effect_may_c9 (F : Fam_effect_may) {R : Type} (N : Nat) (e_1 e_2 : Int) (e_3 : List UInt8) (e_4 : List Expr) (e_5 : Int) (kp0 : Bool → Option R) : Option R :=
 F.slices_ContainsFunc_Expr _ e_4 (fun r6 =>
 kp0 r6)
noncomputable def effect_may_d (F : Fam_effect_may) {R : Type} (N : Nat) (Kind N_ : Int) (Name : List UInt8) (Kids : List Expr) (At : Int) (k0 : Bool → Option R) : Option R :=
 if (Kind == 5) = true then
  (if (Kind == 5) = true then
   (k0 true)
  else
   (effect_may_c9 F N Kind N_ Name Kids At (fun y7 =>
   k0 y7)))
 else
  (if (Kind == 7) = true then
   (if (Kind == 7) = true then
    (k0 true)
   else
    (effect_may_c9 F N Kind N_ Name Kids At (fun y8 =>
    k0 y8)))
  else
   (if (Kind == 8) = true then
    (if (Kind == 8) = true then
     (k0 true)
    else
     (effect_may_c9 F N Kind N_ Name Kids At (fun y9 =>
     k0 y9)))
   else
    (if (Kind == 9) = true then
     (if (Kind == 9) = true then
      (k0 true)
     else
      (effect_may_c9 F N Kind N_ Name Kids At (fun y10 =>
      k0 y10)))
    else
     (if (Kind == 10) = true then
      (if (Kind == 10) = true then
       (k0 true)
      else
       (effect_may_c9 F N Kind N_ Name Kids At (fun y11 =>
       k0 y11)))
     else
      (if (Kind == 11) = true then
       (k0 true)
      else
       (effect_may_c9 F N Kind N_ Name Kids At (fun y12 =>
       k0 y12)))))))
noncomputable def effect_may_D (F : Fam_effect_may) (hF : Fam_effect_may_ok F) (N : Nat) : FD E0 := { f := 32, fn := Tryz.f32, q := effect_may_q, cuts := [{ key := 9, live := [1], out := fun | .ret => ([2], []) | _ => ([], []), q := ⟨[.p 0 0 0], [z0]⟩, G := fun R K a b c d e => effect_may_c9 F N a b c d e (pK ⟨[.b], []⟩ (K .ret)) }], g := [⟨slices_ContainsFunc_Expr_C F, hF.slices_ContainsFunc_Expr⟩] }
theorem effect_may_okF (F : Fam_effect_may) (hF : Fam_effect_may_ok F) (N : Nat) : Ct.ok E0 ⟨(effect_may_D F hF N).f, (effect_may_D F hF N).q, fun R k a b c d e => effect_may_d F N a b c d e (oK ⟨.b, [], []⟩ k)⟩ := FD.ct e0 (effect_may_D F hF N) N (fun R k a b c d e => effect_may_d F N a b c d e (oK ⟨.b, [], []⟩ k))
noncomputable def slices_ContainsFunc_Expr_d (F : Fam_effect_may) {R : Type} (N : Nat) (s : List Expr) (k0 : Bool → Option R) : Option R :=
 F.slices_IndexFunc_Expr _ s (fun r1 =>
 k0 (decide (r1 ≥ 0)))
noncomputable def slices_ContainsFunc_Expr_D (F : Fam_effect_may) (hF : Fam_effect_may_ok F) (N : Nat) : FD E0 := { f := 54, fn := Tryz.f54, q := slices_ContainsFunc_Expr_q, g := [⟨slices_IndexFunc_Expr_C F, hF.slices_IndexFunc_Expr⟩] }
theorem slices_ContainsFunc_Expr_okF (F : Fam_effect_may) (hF : Fam_effect_may_ok F) (N : Nat) : Ct.ok E0 ⟨(slices_ContainsFunc_Expr_D F hF N).f, (slices_ContainsFunc_Expr_D F hF N).q, fun R k a => slices_ContainsFunc_Expr_d F N a (oK ⟨.b, [], []⟩ k)⟩ := FD.ct e0 (slices_ContainsFunc_Expr_D F hF N) N (fun R k a => slices_ContainsFunc_Expr_d F N a (oK ⟨.b, [], []⟩ k))
noncomputable def slices_IndexFunc_Expr_l0_b (F : Fam_effect_may) {R : Type} (N : Nat) (s_1 : List Expr) (v_2 : Int) (kp0 : Option R) (kp1 : Int → Option R) (rec : Int → Option R) (v_3 : Int) : Option R :=
 if (decide (v_3 < v_2)) = true then
  ((at? s_1 v_3).bind fun e4 =>
 F.effect_may _ e4.Kind e4.N e4.Name e4.Kids e4.At (fun r5 =>
 if r5 = true then
  (kp1 v_3)
 else
  (rec (IntKind.wrap .i64 (v_3 + 1)))))
 else
  (kp0 )
noncomputable def slices_IndexFunc_Expr_l0 (F : Fam_effect_may) {R : Type} (N : Nat) (s_1 : List Expr) (v_2 : Int) (kp0 : Option R) (kp1 : Int → Option R) : Nat → Int → Option R
 | 0 => fun _ => none
 | n + 1 => fun v_3 => slices_IndexFunc_Expr_l0_b F N s_1 v_2 kp0 kp1 (slices_IndexFunc_Expr_l0 F N s_1 v_2 kp0 kp1 n) v_3
noncomputable def slices_IndexFunc_Expr_d (F : Fam_effect_may) {R : Type} (N : Nat) (s : List Expr) (k0 : Int → Option R) : Option R :=
 slices_IndexFunc_Expr_l0 F N s ((s.length : Nat) : Int) (k0 (-1))
  (fun y6 =>
 k0 y6) N 0
noncomputable def slices_IndexFunc_Expr_D (F : Fam_effect_may) (hF : Fam_effect_may_ok F) (N : Nat) : FD E0 := { f := 83, fn := Tryz.f83, q := slices_IndexFunc_Expr_q, loops := [{ cur := 0, live := [0, 1, 7, 8], out := fun | .exit 0 => ([], []) | .ret => ([4], []) | _ => ([], []), q := ⟨[.t .expr, .fn 32 [], .i .i64, .i .i64], []⟩, G := fun R K n a b c => slices_IndexFunc_Expr_l0 F N a b (pK ⟨[], []⟩ (K (.exit 0))) (pK ⟨[.i .i64], []⟩ (K .ret)) n c, B := fun R K rec a b c => slices_IndexFunc_Expr_l0_b F N a b (pK ⟨[], []⟩ (K (.exit 0))) (pK ⟨[.i .i64], []⟩ (K .ret)) (rec a b) c }], g := [⟨effect_may_C F, hF.effect_may⟩] }
theorem slices_IndexFunc_Expr_okF (F : Fam_effect_may) (hF : Fam_effect_may_ok F) (N : Nat) : Ct.ok E0 ⟨(slices_IndexFunc_Expr_D F hF N).f, (slices_IndexFunc_Expr_D F hF N).q, fun R k a => slices_IndexFunc_Expr_d F N a (oK ⟨.i .i64, [], []⟩ k)⟩ := FD.ct e0 (slices_IndexFunc_Expr_D F hF N) N (fun R k a => slices_IndexFunc_Expr_d F N a (oK ⟨.i .i64, [], []⟩ k))
noncomputable def Fam_effect_may_next (F : Fam_effect_may) (N : Nat) : Fam_effect_may where
 effect_may := fun R Kind N_ Name Kids At k0 => effect_may_d F N Kind N_ Name Kids At k0
 slices_ContainsFunc_Expr := fun R s k0 => slices_ContainsFunc_Expr_d F N s k0
 slices_IndexFunc_Expr := fun R s k0 => slices_IndexFunc_Expr_d F N s k0
noncomputable def Fam_effect_may_at (N : Nat) : Nat → Fam_effect_may
 | 0 => { effect_may := fun _ _ _ _ _ _ _ => none, slices_ContainsFunc_Expr := fun _ _ _ => none, slices_IndexFunc_Expr := fun _ _ _ => none }
 | d + 1 => Fam_effect_may_next (Fam_effect_may_at N d) N
theorem Fam_effect_may_at_ok (N : Nat) : ∀ d, Fam_effect_may_ok (Fam_effect_may_at N d)
 | 0 => { effect_may := Ct.ok_none, slices_ContainsFunc_Expr := Ct.ok_none, slices_IndexFunc_Expr := Ct.ok_none }
 | d + 1 => { effect_may := effect_may_okF _ (Fam_effect_may_at_ok N d) N, slices_ContainsFunc_Expr := slices_ContainsFunc_Expr_okF _ (Fam_effect_may_at_ok N d) N, slices_IndexFunc_Expr := slices_IndexFunc_Expr_okF _ (Fam_effect_may_at_ok N d) N }
noncomputable def effect_may {R : Type} (N : Nat) (Kind N_ : Int) (Name : List UInt8) (Kids : List Expr) (At : Int) (k0 : Bool → Option R) : Option R := (Fam_effect_may_at N N).effect_may R Kind N_ Name Kids At k0
noncomputable def slices_ContainsFunc_Expr {R : Type} (N : Nat) (s : List Expr) (k0 : Bool → Option R) : Option R := (Fam_effect_may_at N N).slices_ContainsFunc_Expr R s k0
noncomputable def slices_ContainsFunc_Expr_S (N : Nat) : OC E0 := ⟨slices_ContainsFunc_Expr_C (Fam_effect_may_at N N), (Fam_effect_may_at_ok N N).slices_ContainsFunc_Expr⟩
noncomputable def slices_IndexFunc_Expr {R : Type} (N : Nat) (s : List Expr) (k0 : Int → Option R) : Option R := (Fam_effect_may_at N N).slices_IndexFunc_Expr R s k0
def y3 : Sh S := .ag [.i .i64, .i .i64, .i .i64, .st]
def z1 : ShO S := .bx [.t .str, .t .str, .t .str, .t .node, .ns]
def z2 : ShO S := .bx [.t .str, .t .str, .t .str, .t .node, .sw 1]
noncomputable def code_writer_put {R : Type} (N : Nat) (Op A N_ : Int) (S : List UInt8) (Vars Ports Timers : List (List UInt8)) (Nodes : List Node) (k0 : Int → (List Ins) → Option R) : Option R :=
 if [(⟨Op, A, N_, S⟩ : Ins)].length ≤ maxRow then (k0 (IntKind.wrap .i64 ((([(⟨Op, A, N_, S⟩ : Ins)].length : Nat) : Int) - 1)) [(⟨Op, A, N_, S⟩ : Ins)]) else none
noncomputable def code_writer_put_D (N : Nat) : FD E0 := { f := 85, fn := Tryz.f85, q := ⟨[.p 0 0 0, y3], [z1]⟩, mode := fun | 11 => .own | 12 => .own | _ => .app }
noncomputable def code_writer_put_S (N : Nat) : OC E0 := ⟨_, FD.ct e0 (code_writer_put_D N) N (fun R k a b c d e g h i => code_writer_put N a b c d e g h i (fun j => oK ⟨.i .i64, [z2], [.rw .ins .own]⟩ k j e g h i))⟩
noncomputable def code_writer_push {R : Type} (N : Nat) (n_ : Int) (Vars Ports Timers : List (List UInt8)) (Nodes : List Node) (k0 : (List Ins) → Option R) : Option R :=
 code_writer_put N 1 0 n_ [] Vars Ports Timers Nodes (fun r1 r2 =>
 k0 r2)
noncomputable def slices_Index_string_l0_b {R : Type} (N : Nat) (s_1 : List (List UInt8)) (v_2 : List UInt8) (v_3 : Int) (kp0 : Option R) (kp1 : Int → Option R) (rec : Int → Option R) (v_4 : Int) : Option R :=
 if (decide (v_4 < v_3)) = true then
  ((at? s_1 v_4).bind fun e5 =>
 if (v_2 == e5) = true then
  (kp1 v_4)
 else
  (rec (IntKind.wrap .i64 (v_4 + 1))))
 else
  (kp0 )
noncomputable def slices_Index_string_l0 {R : Type} (N : Nat) (s_1 : List (List UInt8)) (v_2 : List UInt8) (v_3 : Int) (kp0 : Option R) (kp1 : Int → Option R) : Nat → Int → Option R
 | 0 => fun _ => none
 | n + 1 => fun v_4 => slices_Index_string_l0_b N s_1 v_2 v_3 kp0 kp1 (slices_Index_string_l0 N s_1 v_2 v_3 kp0 kp1 n) v_4
noncomputable def slices_Index_string {R : Type} (N : Nat) (s : List (List UInt8)) (v : List UInt8) (k0 : Int → Option R) : Option R :=
 slices_Index_string_l0 N s v ((s.length : Nat) : Int) (k0 (-1))
  (fun y6 =>
 k0 y6) N 0
noncomputable def slices_Index_string_D (N : Nat) : FD E0 := { f := 58, fn := Tryz.f58, q := ⟨[.t .str, .st], []⟩, loops := [{ cur := 0, live := [0, 1, 7, 8], out := fun | .exit 0 => ([], []) | .ret => ([4], []) | _ => ([], []), q := ⟨[.t .str, .st, .i .i64, .i .i64], []⟩, G := fun R K n a b c d => slices_Index_string_l0 N a b c (pK ⟨[], []⟩ (K (.exit 0))) (pK ⟨[.i .i64], []⟩ (K .ret)) n d, B := fun R K rec a b c d => slices_Index_string_l0_b N a b c (pK ⟨[], []⟩ (K (.exit 0))) (pK ⟨[.i .i64], []⟩ (K .ret)) (rec a b c) d }] }
noncomputable def slices_Index_string_S (N : Nat) : OC E0 := ⟨_, FD.ct e0 (slices_Index_string_D N) N (fun R k a b => slices_Index_string N a b (oK ⟨.i .i64, [], []⟩ k))⟩
def y4 : Sh S := .ag [.i .i64, .i .i64, .i .i64, .i .i64, .i .i64, .i .i64, .st]
noncomputable def flat_Find_1 {R : Type} (N : Nat) (Kind Parent Last Init Entry Exit : Int) (Name a1_0 : List UInt8) (k0 : Bool → Option R) : Option R :=
 k0 (Name == a1_0)
noncomputable def flat_Find_1_D (N : Nat) : FD E0 := { f := 103, fn := Tryz.f103, q := ⟨[y4, .p 0 0 0], [.bx [.st]]⟩ }
noncomputable def flat_Find_1_S (N : Nat) : OC E0 := ⟨_, FD.ctq e0 (flat_Find_1_D N) N (fun R k a b c d e g h i => flat_Find_1 N a b c d e g h i (oQ ⟨.b, [], []⟩ k))⟩
noncomputable def slices_IndexFunc_Node_l0_b {R : Type} (N : Nat) (s_1 : List Node) (v_2 : Int) (f_4 : List UInt8) (kp0 : Option R) (kp1 : Int → Option R) (rec : Int → Option R) (v_3 : Int) : Option R :=
 if (decide (v_3 < v_2)) = true then
  ((at? s_1 v_3).bind fun e5 =>
 if (e5.Name == f_4) = true then
  (kp1 v_3)
 else
  (rec (IntKind.wrap .i64 (v_3 + 1))))
 else
  (kp0 )
noncomputable def slices_IndexFunc_Node_l0 {R : Type} (N : Nat) (s_1 : List Node) (v_2 : Int) (f_4 : List UInt8) (kp0 : Option R) (kp1 : Int → Option R) : Nat → Int → Option R
 | 0 => fun _ => none
 | n + 1 => fun v_3 => slices_IndexFunc_Node_l0_b N s_1 v_2 f_4 kp0 kp1 (slices_IndexFunc_Node_l0 N s_1 v_2 f_4 kp0 kp1 n) v_3
noncomputable def slices_IndexFunc_Node {R : Type} (N : Nat) (s : List Node) (f_c0_0 : List UInt8) (k0 : Int → Option R) : Option R :=
 slices_IndexFunc_Node_l0 N s ((s.length : Nat) : Int) f_c0_0 (k0 (-1))
  (fun y6 =>
 k0 y6) N 0
noncomputable def slices_IndexFunc_Node_D (N : Nat) : FD E0 := { f := 102, fn := Tryz.f102, q := ⟨[.t .node, .fn 103 [.p 0 0 0]], [.bx [.st]]⟩, loops := [{ cur := 0, live := [0, 1, 7, 8], out := fun | .exit 0 => ([], []) | .ret => ([4], []) | _ => ([], []), q := ⟨[.t .node, .fn 103 [.p 0 0 0], .i .i64, .i .i64], [.bx [.st]]⟩, G := fun R K n a b c d => slices_IndexFunc_Node_l0 N a b d (pK ⟨[], [.bx [.st]]⟩ (K (.exit 0)) d) (fun e => pK ⟨[.i .i64], [.bx [.st]]⟩ (K .ret) e d) n c, B := fun R K rec a b c d => slices_IndexFunc_Node_l0_b N a b d (pK ⟨[], [.bx [.st]]⟩ (K (.exit 0)) d) (fun e => pK ⟨[.i .i64], [.bx [.st]]⟩ (K .ret) e d) (fun c => rec a b c d) c }], g := [flat_Find_1_S N] }
noncomputable def slices_IndexFunc_Node_S (N : Nat) : OC E0 := ⟨_, FD.ctq e0 (slices_IndexFunc_Node_D N) N (fun R k a b => slices_IndexFunc_Node N a b (oQ ⟨.i .i64, [], []⟩ k))⟩
noncomputable def flat_Find {R : Type} (N : Nat) (l : List Node) (name : List UInt8) (k0 : Int → Option R) : Option R :=
 if (name == []) = true then
  (k0 (-1))
 else
  (slices_IndexFunc_Node N l name (fun r1 =>
 k0 r1))
noncomputable def flat_Find_D (N : Nat) : FD E0 := { f := 86, fn := Tryz.f86, q := ⟨[.t .node, .st], []⟩, g := [slices_IndexFunc_Node_S N] }
noncomputable def flat_Find_S (N : Nat) : OC E0 := ⟨_, FD.ct e0 (flat_Find_D N) N (fun R k a b => flat_Find N a b (oK ⟨.i .i64, [], []⟩ k))⟩
noncomputable def code_op {R : Type} (N : Nat) (kind : Int) (k0 : Int → Option R) : Option R :=
 if (kind == 5) = true then
  (k0 5)
 else
  (if (kind == 6) = true then
   (k0 6)
  else
   (if (kind == 7) = true then
    (k0 7)
   else
    (if (kind == 8) = true then
     (k0 8)
    else
     (if (kind == 9) = true then
      (k0 9)
     else
      (if (kind == 10) = true then
       (k0 10)
      else
       (if (kind == 11) = true then
        (k0 11)
       else
        (if (kind == 12) = true then
         (k0 12)
        else
         (if (kind == 13) = true then
          (k0 13)
         else
          (if (kind == 14) = true then
           (k0 14)
          else
           (if (kind == 15) = true then
            (k0 15)
           else
            (if (kind == 16) = true then
             (k0 16)
            else
             (k0 17))))))))))))
noncomputable def code_op_D (N : Nat) : FD E0 := { f := 88, fn := Tryz.f88, q := ⟨[.i .i64], []⟩ }
noncomputable def code_op_S (N : Nat) : OC E0 := ⟨_, FD.ct e0 (code_op_D N) N (fun R k a => code_op N a (oK ⟨.i .i64, [], []⟩ k))⟩
def z3 : ShO S := .bx [.t .str, .t .str, .t .str, .t .node, .sw 2]
noncomputable def code_writer_put_2 {R : Type} (N : Nat) (Op A N_ : Int) (S : List UInt8) (Vars Ports Timers : List (List UInt8)) (Nodes : List Node) (c : List Ins) (k0 : Int → (List Ins) → Option R) : Option R :=
 if c.length + [(⟨Op, A, N_, S⟩ : Ins)].length ≤ maxRow then (k0 (IntKind.wrap .i64 ((((c ++ [(⟨Op, A, N_, S⟩ : Ins)]).length : Nat) : Int) - 1)) (c ++ [(⟨Op, A, N_, S⟩ : Ins)])) else none
noncomputable def code_writer_put_2_D (N : Nat) : FD E0 := { f := 85, fn := Tryz.f85, q := ⟨[.p 0 0 0, y3], [z2, .rw .ins .own]⟩, mode := fun | 11 => .own | 12 => .own | _ => .app }
noncomputable def code_writer_put_2_S (N : Nat) : OC E0 := ⟨_, FD.ct e0 (code_writer_put_2_D N) N (fun R k a b c d e g h i j => code_writer_put_2 N a b c d e g h i j (fun l => oK ⟨.i .i64, [z3, .g], [.rw .ins .own]⟩ k l e g h i))⟩
noncomputable def code_writer_push_2 {R : Type} (N : Nat) (n_ : Int) (Vars Ports Timers : List (List UInt8)) (Nodes : List Node) (c : List Ins) (k0 : (List Ins) → Option R) : Option R :=
 code_writer_put_2 N 1 0 n_ [] Vars Ports Timers Nodes c (fun r1 r2 =>
 k0 r2)
noncomputable def code_writer_push_2_D (N : Nat) : FD E0 := { f := 84, fn := Tryz.f84, q := ⟨[.p 0 0 0, .i .i64], [z2, .rw .ins .own]⟩, g := [code_writer_put_2_S N] }
noncomputable def code_writer_push_2_S (N : Nat) : OC E0 := ⟨_, FD.ct e0 (code_writer_push_2_D N) N (fun R k a b c d e g => code_writer_push_2 N a b c d e g (oK ⟨.tp [], [z3, .g], [.rw .ins .own]⟩ k b c d e))⟩
noncomputable def code_writer_here {R : Type} (N : Nat) (at_ : Int) (Vars Ports Timers : List (List UInt8)) (Nodes : List Node) (c : List Ins) (k0 : (List Ins) → Option R) : Option R :=
 if (0 : Int) ≤ at_ ∧ at_ < (c.length : Int) then (match c[at_.toNat]? with
  | some e1 => (k0 (c.set at_.toNat (⟨e1.Op, ((c.length : Nat) : Int), e1.N, e1.S⟩ : Ins)))
  | none => none) else none
noncomputable def code_writer_here_D (N : Nat) : FD E0 := { f := 91, fn := Tryz.f91, q := ⟨[.p 0 0 0, .i .i64], [z2, .rw .ins .own]⟩ }
noncomputable def code_writer_here_S (N : Nat) : OC E0 := ⟨_, FD.ct e0 (code_writer_here_D N) N (fun R k a b c d e g => code_writer_here N a b c d e g (oK ⟨.tp [], [z2, .rw .ins .own], []⟩ k b c d e))⟩
structure Fam_code_writer_expr_2 where
 code_writer_expr_2 : (R : Type) → Int → Int → (List UInt8) → (List Expr) → Int → (List (List UInt8)) → (List (List UInt8)) → (List (List UInt8)) → (List Node) → (List Ins) → ((List Ins) → Option R) → (Option R) → Option R
 code_writer_both_2 : (R : Type) → Int → Int → (List UInt8) → (List Expr) → Int → (List (List UInt8)) → (List (List UInt8)) → (List (List UInt8)) → (List Node) → (List Ins) → ((List Ins) → Option R) → Option R
def code_writer_expr_2_q : Pat S := ⟨[.p 0 0 0, y2], [z2, .rw .ins .own]⟩
noncomputable def code_writer_expr_2_C (F : Fam_code_writer_expr_2) : Ct S := ⟨55, code_writer_expr_2_q, fun R k a b c d e g h i j l => F.code_writer_expr_2 R a b c d e g h i j l (oK ⟨.tp [], [z3, .g], [.rw .ins .own]⟩ k g h i j) (oK ⟨.tp [], [z2, .rw .ins .own], []⟩ k g h i j l)⟩
def code_writer_both_2_q : Pat S := ⟨[.p 0 0 0, y2], [z2, .rw .ins .own]⟩
noncomputable def code_writer_both_2_C (F : Fam_code_writer_expr_2) : Ct S := ⟨87, code_writer_both_2_q, fun R k a b c d e g h i j l => F.code_writer_both_2 R a b c d e g h i j l (oK ⟨.tp [], [z3, .g], [.rw .ins .own]⟩ k g h i j)⟩
structure Fam_code_writer_expr_2_ok (F : Fam_code_writer_expr_2) : Prop where
 code_writer_expr_2 : (code_writer_expr_2_C F).ok E0
 code_writer_both_2 : (code_writer_both_2_C F).ok E0
noncomputable def code_writer_expr_2_l1_b (F : Fam_code_writer_expr_2) {R : Type} (N : Nat) (v_37 : List Expr) (v_38 : Int) (w_40 w_41 w_42 : List (List UInt8)) (w_43 : List Node) (e_45 e_46 : Int) (e_47 : List UInt8) (e_48 : List Expr) (e_49 : Int) (kp0 : (List Ins) → Option R) (rec : Int → (List Ins) → Option R) (v_39 : Int) (o_44 : List Ins) : Option R :=
 if (decide (v_39 < v_38)) = true then
  ((at? v_37 v_39).bind fun e50 =>
 F.code_writer_expr_2 _ e50.Kind e50.N e50.Name e50.Kids e50.At w_40 w_41 w_42 w_43 o_44 (fun r51 =>
 rec (IntKind.wrap .i64 (v_39 + 1)) r51) (rec (IntKind.wrap .i64 (v_39 + 1)) o_44))
 else
  (kp0 o_44)
noncomputable def code_writer_expr_2_l1 (F : Fam_code_writer_expr_2) {R : Type} (N : Nat) (v_37 : List Expr) (v_38 : Int) (w_40 w_41 w_42 : List (List UInt8)) (w_43 : List Node) (e_45 e_46 : Int) (e_47 : List UInt8) (e_48 : List Expr) (e_49 : Int) (kp0 : (List Ins) → Option R) : Nat → Int → (List Ins) → Option R
 | 0 => fun _ _ => none
 | n + 1 => fun v_39 o_44 => code_writer_expr_2_l1_b F N v_37 v_38 w_40 w_41 w_42 w_43 e_45 e_46 e_47 e_48 e_49 kp0 (code_writer_expr_2_l1 F N v_37 v_38 w_40 w_41 w_42 w_43 e_45 e_46 e_47 e_48 e_49 kp0 n) v_39 o_44
noncomputable def code_writer_expr_2_c18 (F : Fam_code_writer_expr_2) {R : Type} (N : Nat) (v_10 : Bool) (w_11 w_12 w_13 : List (List UInt8)) (w_14 : List Node) (o_15 : List Ins) (e_16 e_17 : Int) (e_18 : List UInt8) (e_19 : List Expr) (e_20 : Int) (kp0 : (List Ins) → Option R) (kp1 : Option R) : Option R :=
 if v_10 = true then
  (if (((e_19.length : Nat) : Int) == 2) = true then
   (F.code_writer_both_2 _ e_16 e_17 e_18 e_19 e_20 w_11 w_12 w_13 w_14 o_15 (fun r21 =>
   kp0 r21))
  else
   (kp1 ))
 else
  (code_writer_expr_2_l1 F N e_19 ((e_19.length : Nat) : Int) w_11 w_12 w_13 w_14 e_16 e_17 e_18 e_19 e_20 (fun y52 =>
  code_op N e_16 (fun r53 =>
  code_writer_put_2 N r53 0 0 [] w_11 w_12 w_13 w_14 y52 (fun r54 r55 =>
  kp0 r55))) N 0 o_15)
noncomputable def code_writer_expr_2_d (F : Fam_code_writer_expr_2) {R : Type} (N : Nat) (Kind N_ : Int) (Name : List UInt8) (Kids : List Expr) (At : Int) (Vars Ports Timers : List (List UInt8)) (Nodes : List Node) (c : List Ins) (k0 : (List Ins) → Option R) (k1 : Option R) : Option R :=
 if (Kind == 1) = true then
  (code_writer_push_2 N N_ Vars Ports Timers Nodes c (fun r1 =>
  k0 r1))
 else
  (if (Kind == 2) = true then
   (slices_Index_string N Vars Name (fun r2 =>
   code_writer_put_2 N 2 r2 0 [] Vars Ports Timers Nodes c (fun r3 r4 =>
   k0 r4)))
  else
   (if (Kind == 3) = true then
    (code_writer_put_2 N 3 0 0 [] Vars Ports Timers Nodes c (fun r5 r6 =>
    k0 r6))
   else
    (if (Kind == 4) = true then
     (flat_Find N Nodes Name (fun r7 =>
     code_writer_put_2 N 4 r7 0 [] Vars Ports Timers Nodes c (fun r8 r9 =>
     k0 r9)))
    else
     (if (Kind == 18) = true then
      (code_writer_expr_2_c18 F N (Kind == 18) Vars Ports Timers Nodes c Kind N_ Name Kids At (fun y56 =>
      k0 y56)
       (k1 ))
     else
      (code_writer_expr_2_c18 F N (Kind == 19) Vars Ports Timers Nodes c Kind N_ Name Kids At (fun y57 =>
      k0 y57)
       (k1 ))))))
noncomputable def code_writer_expr_2_D (F : Fam_code_writer_expr_2) (hF : Fam_code_writer_expr_2_ok F) (N : Nat) : FD E0 := { f := 55, fn := Tryz.f55, q := code_writer_expr_2_q, loops := [{ cur := 1, live := [0, 3, 9, 10, 11], fix := [(⟨0, [4]⟩, .fresh .ins .own)], out := fun | .exit 1 => ([0, 3], []) | _ => ([], []), q := ⟨[.p 0 0 0, .p 3 0 0, .t .expr, .i .i64, .i .i64], [z3, .g, .rw .ins .own, z0]⟩, G := fun R K n a b c d e g h i j l m o p => code_writer_expr_2_l1 F N a b d e g h j l m o p (fun q => pK ⟨[.p 0 0 0, .p 3 0 0], [z3, .g, .rw .ins .own, z0]⟩ (K (.exit 1)) d e g h q j l m o p) n c i, B := fun R K rec a b c d e g h i j l m o p => code_writer_expr_2_l1_b F N a b d e g h j l m o p (fun q => pK ⟨[.p 0 0 0, .p 3 0 0], [z3, .g, .rw .ins .own, z0]⟩ (K (.exit 1)) d e g h q j l m o p) (fun c i => rec a b c d e g h i j l m o p) c i }], cuts := [{ key := 18, live := [0, 3, 62], out := fun | .normal => ([], []) | _ => ([], []), q := ⟨[.p 0 0 0, .p 2 0 0, .b], [z2, .rw .ins .own, z0]⟩, G := fun R K a b c d e g h i j l m => code_writer_expr_2_c18 F N a b c d e g h i j l m (pK ⟨[], [z3, .g, .rw .ins .own]⟩ (K .normal) b c d e) (pK ⟨[], [z2, .rw .ins .own]⟩ (K .normal) b c d e g) }], g := [⟨code_writer_expr_2_C F, hF.code_writer_expr_2⟩, slices_Index_string_S N, code_writer_push_2_S N, code_writer_put_2_S N, flat_Find_S N, ⟨code_writer_both_2_C F, hF.code_writer_both_2⟩, code_op_S N] }
theorem code_writer_expr_2_okF (F : Fam_code_writer_expr_2) (hF : Fam_code_writer_expr_2_ok F) (N : Nat) : Ct.ok E0 ⟨(code_writer_expr_2_D F hF N).f, (code_writer_expr_2_D F hF N).q, fun R k a b c d e g h i j l => code_writer_expr_2_d F N a b c d e g h i j l (oK ⟨.tp [], [z3, .g], [.rw .ins .own]⟩ k g h i j) (oK ⟨.tp [], [z2, .rw .ins .own], []⟩ k g h i j l)⟩ := FD.ct e0 (code_writer_expr_2_D F hF N) N (fun R k a b c d e g h i j l => code_writer_expr_2_d F N a b c d e g h i j l (oK ⟨.tp [], [z3, .g], [.rw .ins .own]⟩ k g h i j) (oK ⟨.tp [], [z2, .rw .ins .own], []⟩ k g h i j l))
noncomputable def code_writer_both_2_c7 (F : Fam_code_writer_expr_2) {R : Type} (N : Nat) (first_26 second_27 : Int) (w_28 w_29 w_30 : List (List UInt8)) (w_31 : List Node) (o_32 : List Ins) (kp0 : (List Ins) → Option R) : Option R :=
 code_writer_put_2 N 23 0 0 [] w_28 w_29 w_30 w_31 o_32 (fun r33 r34 =>
 code_writer_here N first_26 w_28 w_29 w_30 w_31 r34 (fun r35 =>
 code_writer_here N second_27 w_28 w_29 w_30 w_31 r35 (fun r36 =>
 code_writer_push_2 N 0 w_28 w_29 w_30 w_31 r36 (fun r37 =>
 code_writer_here N r33 w_28 w_29 w_30 w_31 r37 (fun r38 =>
 kp0 r38)))))
noncomputable def code_writer_both_2_c5 (F : Fam_code_writer_expr_2) {R : Type} (N : Nat) (first_17 : Int) (w_18 w_19 w_20 : List (List UInt8)) (w_21 : List Node) (o_22 : List Ins) (kp0 : (List Ins) → Option R) : Option R :=
 code_writer_put_2 N 24 0 0 [] w_18 w_19 w_20 w_21 o_22 (fun r23 r24 =>
 code_writer_push_2 N 1 w_18 w_19 w_20 w_21 r24 (fun r25 =>
 code_writer_both_2_c7 F N first_17 r23 w_18 w_19 w_20 w_21 r25 (fun y39 =>
 kp0 y39)))
noncomputable def code_writer_both_2_c17 (F : Fam_code_writer_expr_2) {R : Type} (N : Nat) (jump_67 second_68 : Int) (w_69 w_70 w_71 : List (List UInt8)) (w_72 : List Node) (o_73 : List Ins) (kp0 : (List Ins) → Option R) : Option R :=
 code_writer_push_2 N 1 w_69 w_70 w_71 w_72 o_73 (fun r74 =>
 code_writer_put_2 N 23 0 0 [] w_69 w_70 w_71 w_72 r74 (fun r75 r76 =>
 code_writer_here N second_68 w_69 w_70 w_71 w_72 r76 (fun r77 =>
 code_writer_push_2 N 0 w_69 w_70 w_71 w_72 r77 (fun r78 =>
 code_writer_here N jump_67 w_69 w_70 w_71 w_72 r78 (fun r79 =>
 code_writer_here N r75 w_69 w_70 w_71 w_72 r79 (fun r80 =>
 kp0 r80))))))
noncomputable def code_writer_both_2_c16 (F : Fam_code_writer_expr_2) {R : Type} (N : Nat) (jump_59 : Int) (w_60 w_61 w_62 : List (List UInt8)) (w_63 : List Node) (o_64 : List Ins) (kp0 : (List Ins) → Option R) : Option R :=
 code_writer_put_2 N 24 0 0 [] w_60 w_61 w_62 w_63 o_64 (fun r65 r66 =>
 code_writer_both_2_c17 F N jump_59 r65 w_60 w_61 w_62 w_63 r66 (fun y81 =>
 kp0 y81))
noncomputable def code_writer_both_2_c12 (F : Fam_code_writer_expr_2) {R : Type} (N : Nat) (first_42 : Int) (w_43 w_44 w_45 : List (List UInt8)) (w_46 : List Node) (o_47 : List Ins) (e_48 e_49 : Int) (e_50 : List UInt8) (e_51 : List Expr) (e_52 : Int) (kp0 : (List Ins) → Option R) : Option R :=
 code_writer_push_2 N 1 w_43 w_44 w_45 w_46 o_47 (fun r53 =>
 code_writer_put_2 N 23 0 0 [] w_43 w_44 w_45 w_46 r53 (fun r54 r55 =>
 code_writer_here N first_42 w_43 w_44 w_45 w_46 r55 (fun r56 =>
 (at? e_51 1).bind fun e57 =>
 F.code_writer_expr_2 _ e57.Kind e57.N e57.Name e57.Kids e57.At w_43 w_44 w_45 w_46 r56 (fun r58 =>
 code_writer_both_2_c16 F N r54 w_43 w_44 w_45 w_46 r58 (fun y82 =>
 kp0 y82)) (code_writer_both_2_c16 F N r54 w_43 w_44 w_45 w_46 r56 (fun y83 =>
 kp0 y83)))))
noncomputable def code_writer_both_2_c2 (F : Fam_code_writer_expr_2) {R : Type} (N : Nat) (w_3 w_4 w_5 : List (List UInt8)) (w_6 : List Node) (o_7 : List Ins) (e_8 e_9 : Int) (e_10 : List UInt8) (e_11 : List Expr) (e_12 : Int) (kp0 kp1 : (List Ins) → Option R) : Option R :=
 code_writer_put_2 N 24 0 0 [] w_3 w_4 w_5 w_6 o_7 (fun r13 r14 =>
 if (e_8 == 18) = true then
  ((at? e_11 1).bind fun e15 =>
  F.code_writer_expr_2 _ e15.Kind e15.N e15.Name e15.Kids e15.At w_3 w_4 w_5 w_6 r14 (fun r16 =>
  code_writer_both_2_c5 F N r13 w_3 w_4 w_5 w_6 r16 (fun y40 =>
  kp0 y40)) (code_writer_both_2_c5 F N r13 w_3 w_4 w_5 w_6 r14 (fun y41 =>
  kp0 y41)))
 else
  (code_writer_both_2_c12 F N r13 w_3 w_4 w_5 w_6 r14 e_8 e_9 e_10 e_11 e_12 (fun y84 =>
  kp1 y84)))
noncomputable def code_writer_both_2_d (F : Fam_code_writer_expr_2) {R : Type} (N : Nat) (Kind N_ : Int) (Name : List UInt8) (Kids : List Expr) (At : Int) (Vars Ports Timers : List (List UInt8)) (Nodes : List Node) (c : List Ins) (k0 : (List Ins) → Option R) : Option R :=
 (at? Kids 0).bind fun e1 =>
 F.code_writer_expr_2 _ e1.Kind e1.N e1.Name e1.Kids e1.At Vars Ports Timers Nodes c (fun r2 =>
 code_writer_both_2_c2 F N Vars Ports Timers Nodes r2 Kind N_ Name Kids At (fun y85 =>
 k0 y85)
  (fun y86 =>
 k0 y86)) (code_writer_both_2_c2 F N Vars Ports Timers Nodes c Kind N_ Name Kids At (fun y87 =>
 k0 y87)
  (fun y88 =>
 k0 y88))
noncomputable def code_writer_both_2_D (F : Fam_code_writer_expr_2) (hF : Fam_code_writer_expr_2_ok F) (N : Nat) : FD E0 := { f := 87, fn := Tryz.f87, q := code_writer_both_2_q, cuts := [{ key := 7, live := [0, 4, 5], out := fun | .ret => ([], []) | _ => ([], []), q := ⟨[.p 0 0 0, .i .i64, .i .i64], [z3, .g, .rw .ins .own]⟩, G := fun R K a b c d e g h => code_writer_both_2_c7 F N a b c d e g h (pK ⟨[], [z3, .g, .rw .ins .own]⟩ (K .ret) c d e g) }, { key := 5, live := [0, 4], out := fun | .ret => ([], []) | _ => ([], []), q := ⟨[.p 0 0 0, .i .i64], [z3, .g, .rw .ins .own]⟩, G := fun R K a b c d e g => code_writer_both_2_c5 F N a b c d e g (pK ⟨[], [z3, .g, .rw .ins .own]⟩ (K .ret) b c d e) }, { key := 17, live := [0, 7, 8], out := fun | .normal => ([], []) | _ => ([], []), q := ⟨[.p 0 0 0, .i .i64, .i .i64], [z3, .g, .rw .ins .own]⟩, G := fun R K a b c d e g h => code_writer_both_2_c17 F N a b c d e g h (pK ⟨[], [z3, .g, .rw .ins .own]⟩ (K .normal) c d e g) }, { key := 16, live := [0, 7], out := fun | .normal => ([], []) | _ => ([], []), q := ⟨[.p 0 0 0, .i .i64], [z3, .g, .rw .ins .own]⟩, G := fun R K a b c d e g => code_writer_both_2_c16 F N a b c d e g (pK ⟨[], [z3, .g, .rw .ins .own]⟩ (K .normal) b c d e) }, { key := 12, live := [0, 3, 4], out := fun | .normal => ([], []) | _ => ([], []), q := ⟨[.p 0 0 0, .p 3 0 0, .i .i64], [z3, .g, .rw .ins .own, z0]⟩, G := fun R K a b c d e g h i j l m => code_writer_both_2_c12 F N a b c d e g h i j l m (pK ⟨[], [z3, .g, .rw .ins .own]⟩ (K .normal) b c d e) }, { key := 2, live := [0, 3], fix := [(⟨0, [4]⟩, .fresh .ins .own)], out := fun | .ret => ([], []) | .normal => ([], []) | _ => ([], []), q := ⟨[.p 0 0 0, .p 3 0 0], [z3, .g, .rw .ins .own, z0]⟩, G := fun R K a b c d e g h i j l => code_writer_both_2_c2 F N a b c d e g h i j l (pK ⟨[], [z3, .g, .rw .ins .own]⟩ (K .ret) a b c d) (pK ⟨[], [z3, .g, .rw .ins .own]⟩ (K .normal) a b c d) }], g := [⟨code_writer_expr_2_C F, hF.code_writer_expr_2⟩, code_writer_push_2_S N, code_writer_put_2_S N, code_writer_here_S N] }
theorem code_writer_both_2_okF (F : Fam_code_writer_expr_2) (hF : Fam_code_writer_expr_2_ok F) (N : Nat) : Ct.ok E0 ⟨(code_writer_both_2_D F hF N).f, (code_writer_both_2_D F hF N).q, fun R k a b c d e g h i j l => code_writer_both_2_d F N a b c d e g h i j l (oK ⟨.tp [], [z3, .g], [.rw .ins .own]⟩ k g h i j)⟩ := FD.ct e0 (code_writer_both_2_D F hF N) N (fun R k a b c d e g h i j l => code_writer_both_2_d F N a b c d e g h i j l (oK ⟨.tp [], [z3, .g], [.rw .ins .own]⟩ k g h i j))
noncomputable def Fam_code_writer_expr_2_next (F : Fam_code_writer_expr_2) (N : Nat) : Fam_code_writer_expr_2 where
 code_writer_expr_2 := fun R Kind N_ Name Kids At Vars Ports Timers Nodes c k0 k1 => code_writer_expr_2_d F N Kind N_ Name Kids At Vars Ports Timers Nodes c k0 k1
 code_writer_both_2 := fun R Kind N_ Name Kids At Vars Ports Timers Nodes c k0 => code_writer_both_2_d F N Kind N_ Name Kids At Vars Ports Timers Nodes c k0
noncomputable def Fam_code_writer_expr_2_at (N : Nat) : Nat → Fam_code_writer_expr_2
 | 0 => { code_writer_expr_2 := fun _ _ _ _ _ _ _ _ _ _ _ _ _ => none, code_writer_both_2 := fun _ _ _ _ _ _ _ _ _ _ _ _ => none }
 | d + 1 => Fam_code_writer_expr_2_next (Fam_code_writer_expr_2_at N d) N
theorem Fam_code_writer_expr_2_at_ok (N : Nat) : ∀ d, Fam_code_writer_expr_2_ok (Fam_code_writer_expr_2_at N d)
 | 0 => { code_writer_expr_2 := Ct.ok_none, code_writer_both_2 := Ct.ok_none }
 | d + 1 => { code_writer_expr_2 := code_writer_expr_2_okF _ (Fam_code_writer_expr_2_at_ok N d) N, code_writer_both_2 := code_writer_both_2_okF _ (Fam_code_writer_expr_2_at_ok N d) N }
noncomputable def code_writer_expr_2 {R : Type} (N : Nat) (Kind N_ : Int) (Name : List UInt8) (Kids : List Expr) (At : Int) (Vars Ports Timers : List (List UInt8)) (Nodes : List Node) (c : List Ins) (k0 : (List Ins) → Option R) (k1 : Option R) : Option R := (Fam_code_writer_expr_2_at N N).code_writer_expr_2 R Kind N_ Name Kids At Vars Ports Timers Nodes c k0 k1
noncomputable def code_writer_expr_2_S (N : Nat) : OC E0 := ⟨code_writer_expr_2_C (Fam_code_writer_expr_2_at N N), (Fam_code_writer_expr_2_at_ok N N).code_writer_expr_2⟩
noncomputable def code_writer_both_2 {R : Type} (N : Nat) (Kind N_ : Int) (Name : List UInt8) (Kids : List Expr) (At : Int) (Vars Ports Timers : List (List UInt8)) (Nodes : List Node) (c : List Ins) (k0 : (List Ins) → Option R) : Option R := (Fam_code_writer_expr_2_at N N).code_writer_both_2 R Kind N_ Name Kids At Vars Ports Timers Nodes c k0
structure Fam_code_writer_expr where
 code_writer_expr : (R : Type) → Int → Int → (List UInt8) → (List Expr) → Int → (List (List UInt8)) → (List (List UInt8)) → (List (List UInt8)) → (List Node) → ((List Ins) → Option R) → Option R
 code_writer_both : (R : Type) → Int → Int → (List UInt8) → (List Expr) → Int → (List (List UInt8)) → (List (List UInt8)) → (List (List UInt8)) → (List Node) → ((List Ins) → Option R) → Option R
def code_writer_expr_q : Pat S := ⟨[.p 0 0 0, y2], [z1]⟩
noncomputable def code_writer_expr_C (F : Fam_code_writer_expr) : Ct S := ⟨55, code_writer_expr_q, fun R k a b c d e g h i j => F.code_writer_expr R a b c d e g h i j (oK ⟨.tp [], [z2], [.rw .ins .own]⟩ k g h i j)⟩
def code_writer_both_q : Pat S := ⟨[.p 0 0 0, y2], [z1]⟩
noncomputable def code_writer_both_C (F : Fam_code_writer_expr) : Ct S := ⟨87, code_writer_both_q, fun R k a b c d e g h i j => F.code_writer_both R a b c d e g h i j (oK ⟨.tp [], [z2], [.rw .ins .own]⟩ k g h i j)⟩
structure Fam_code_writer_expr_ok (F : Fam_code_writer_expr) : Prop where
 code_writer_expr : (code_writer_expr_C F).ok E0
 code_writer_both : (code_writer_both_C F).ok E0
noncomputable def code_writer_expr_l1_b (F : Fam_code_writer_expr) {R : Type} (N : Nat) (v_35 : List Expr) (v_36 : Int) (w_38 w_39 w_40 : List (List UInt8)) (w_41 : List Node) (e_43 e_44 : Int) (e_45 : List UInt8) (e_46 : List Expr) (e_47 : Int) (kp0 : (List Ins) → Option R) (rec : Int → (List Ins) → Option R) (v_37 : Int) (o_42 : List Ins) : Option R :=
 if (decide (v_37 < v_36)) = true then
  ((at? v_35 v_37).bind fun e48 =>
 code_writer_expr_2 N e48.Kind e48.N e48.Name e48.Kids e48.At w_38 w_39 w_40 w_41 o_42 (fun r49 =>
 rec (IntKind.wrap .i64 (v_37 + 1)) r49) (rec (IntKind.wrap .i64 (v_37 + 1)) o_42))
 else
  (kp0 o_42)
noncomputable def code_writer_expr_l1 (F : Fam_code_writer_expr) {R : Type} (N : Nat) (v_35 : List Expr) (v_36 : Int) (w_38 w_39 w_40 : List (List UInt8)) (w_41 : List Node) (e_43 e_44 : Int) (e_45 : List UInt8) (e_46 : List Expr) (e_47 : Int) (kp0 : (List Ins) → Option R) : Nat → Int → (List Ins) → Option R
 | 0 => fun _ _ => none
 | n + 1 => fun v_37 o_42 => code_writer_expr_l1_b F N v_35 v_36 w_38 w_39 w_40 w_41 e_43 e_44 e_45 e_46 e_47 kp0 (code_writer_expr_l1 F N v_35 v_36 w_38 w_39 w_40 w_41 e_43 e_44 e_45 e_46 e_47 kp0 n) v_37 o_42
noncomputable def code_writer_expr_c18 (F : Fam_code_writer_expr) {R : Type} (N : Nat) (v_10 : Bool) (w_11 w_12 w_13 : List (List UInt8)) (w_14 : List Node) (e_15 e_16 : Int) (e_17 : List UInt8) (e_18 : List Expr) (e_19 : Int) (kp0 : (List Ins) → Option R) (kp1 : Option R) : Option R :=
 if v_10 = true then
  (if (((e_18.length : Nat) : Int) == 2) = true then
   (F.code_writer_both _ e_15 e_16 e_17 e_18 e_19 w_11 w_12 w_13 w_14 (fun r20 =>
   kp0 r20))
  else
   (kp1 ))
 else
  (code_writer_expr_l1 F N e_18 ((e_18.length : Nat) : Int) w_11 w_12 w_13 w_14 e_15 e_16 e_17 e_18 e_19 (fun y50 =>
  code_op N e_15 (fun r51 =>
  code_writer_put_2 N r51 0 0 [] w_11 w_12 w_13 w_14 y50 (fun r52 r53 =>
  kp0 r53))) N 0 ([] : List Ins))
noncomputable def code_writer_expr_d (F : Fam_code_writer_expr) {R : Type} (N : Nat) (Kind N_ : Int) (Name : List UInt8) (Kids : List Expr) (At : Int) (Vars Ports Timers : List (List UInt8)) (Nodes : List Node) (k0 : (List Ins) → Option R) : Option R :=
 if (Kind == 1) = true then
  (code_writer_push N N_ Vars Ports Timers Nodes (fun r1 =>
  k0 r1))
 else
  (if (Kind == 2) = true then
   (slices_Index_string N Vars Name (fun r2 =>
   code_writer_put N 2 r2 0 [] Vars Ports Timers Nodes (fun r3 r4 =>
   k0 r4)))
  else
   (if (Kind == 3) = true then
    (code_writer_put N 3 0 0 [] Vars Ports Timers Nodes (fun r5 r6 =>
    k0 r6))
   else
    (if (Kind == 4) = true then
     (flat_Find N Nodes Name (fun r7 =>
     code_writer_put N 4 r7 0 [] Vars Ports Timers Nodes (fun r8 r9 =>
     k0 r9)))
    else
     (if (Kind == 18) = true then
      (code_writer_expr_c18 F N (Kind == 18) Vars Ports Timers Nodes Kind N_ Name Kids At (fun y54 =>
      k0 y54)
       (k0 ([] : List Ins)))
     else
      (code_writer_expr_c18 F N (Kind == 19) Vars Ports Timers Nodes Kind N_ Name Kids At (fun y55 =>
      k0 y55)
       (k0 ([] : List Ins)))))))
noncomputable def code_writer_both_c7 (F : Fam_code_writer_expr) {R : Type} (N : Nat) (first_16 second_17 : Int) (w_18 w_19 w_20 : List (List UInt8)) (w_21 : List Node) (o_22 : List Ins) (kp0 : (List Ins) → Option R) : Option R :=
 code_writer_put_2 N 23 0 0 [] w_18 w_19 w_20 w_21 o_22 (fun r23 r24 =>
 code_writer_here N first_16 w_18 w_19 w_20 w_21 r24 (fun r25 =>
 code_writer_here N second_17 w_18 w_19 w_20 w_21 r25 (fun r26 =>
 code_writer_push_2 N 0 w_18 w_19 w_20 w_21 r26 (fun r27 =>
 code_writer_here N r23 w_18 w_19 w_20 w_21 r27 (fun r28 =>
 kp0 r28)))))
noncomputable def code_writer_both_c5 (F : Fam_code_writer_expr) {R : Type} (N : Nat) (first_7 : Int) (w_8 w_9 w_10 : List (List UInt8)) (w_11 : List Node) (o_12 : List Ins) (kp0 : (List Ins) → Option R) : Option R :=
 code_writer_put_2 N 24 0 0 [] w_8 w_9 w_10 w_11 o_12 (fun r13 r14 =>
 code_writer_push_2 N 1 w_8 w_9 w_10 w_11 r14 (fun r15 =>
 code_writer_both_c7 F N first_7 r13 w_8 w_9 w_10 w_11 r15 (fun y29 =>
 kp0 y29)))
noncomputable def code_writer_both_c17 (F : Fam_code_writer_expr) {R : Type} (N : Nat) (jump_57 second_58 : Int) (w_59 w_60 w_61 : List (List UInt8)) (w_62 : List Node) (o_63 : List Ins) (kp0 : (List Ins) → Option R) : Option R :=
 code_writer_push_2 N 1 w_59 w_60 w_61 w_62 o_63 (fun r64 =>
 code_writer_put_2 N 23 0 0 [] w_59 w_60 w_61 w_62 r64 (fun r65 r66 =>
 code_writer_here N second_58 w_59 w_60 w_61 w_62 r66 (fun r67 =>
 code_writer_push_2 N 0 w_59 w_60 w_61 w_62 r67 (fun r68 =>
 code_writer_here N jump_57 w_59 w_60 w_61 w_62 r68 (fun r69 =>
 code_writer_here N r65 w_59 w_60 w_61 w_62 r69 (fun r70 =>
 kp0 r70))))))
noncomputable def code_writer_both_c16 (F : Fam_code_writer_expr) {R : Type} (N : Nat) (jump_49 : Int) (w_50 w_51 w_52 : List (List UInt8)) (w_53 : List Node) (o_54 : List Ins) (kp0 : (List Ins) → Option R) : Option R :=
 code_writer_put_2 N 24 0 0 [] w_50 w_51 w_52 w_53 o_54 (fun r55 r56 =>
 code_writer_both_c17 F N jump_49 r55 w_50 w_51 w_52 w_53 r56 (fun y71 =>
 kp0 y71))
noncomputable def code_writer_both_c12 (F : Fam_code_writer_expr) {R : Type} (N : Nat) (first_32 : Int) (w_33 w_34 w_35 : List (List UInt8)) (w_36 : List Node) (o_37 : List Ins) (e_38 e_39 : Int) (e_40 : List UInt8) (e_41 : List Expr) (e_42 : Int) (kp0 : (List Ins) → Option R) : Option R :=
 code_writer_push_2 N 1 w_33 w_34 w_35 w_36 o_37 (fun r43 =>
 code_writer_put_2 N 23 0 0 [] w_33 w_34 w_35 w_36 r43 (fun r44 r45 =>
 code_writer_here N first_32 w_33 w_34 w_35 w_36 r45 (fun r46 =>
 (at? e_41 1).bind fun e47 =>
 code_writer_expr_2 N e47.Kind e47.N e47.Name e47.Kids e47.At w_33 w_34 w_35 w_36 r46 (fun r48 =>
 code_writer_both_c16 F N r44 w_33 w_34 w_35 w_36 r48 (fun y72 =>
 kp0 y72)) (code_writer_both_c16 F N r44 w_33 w_34 w_35 w_36 r46 (fun y73 =>
 kp0 y73)))))
noncomputable def code_writer_both_d (F : Fam_code_writer_expr) {R : Type} (N : Nat) (Kind N_ : Int) (Name : List UInt8) (Kids : List Expr) (At : Int) (Vars Ports Timers : List (List UInt8)) (Nodes : List Node) (k0 : (List Ins) → Option R) : Option R :=
 (at? Kids 0).bind fun e1 =>
 F.code_writer_expr _ e1.Kind e1.N e1.Name e1.Kids e1.At Vars Ports Timers Nodes (fun r2 =>
 code_writer_put_2 N 24 0 0 [] Vars Ports Timers Nodes r2 (fun r3 r4 =>
 if (Kind == 18) = true then
  ((at? Kids 1).bind fun e5 =>
  code_writer_expr_2 N e5.Kind e5.N e5.Name e5.Kids e5.At Vars Ports Timers Nodes r4 (fun r6 =>
  code_writer_both_c5 F N r3 Vars Ports Timers Nodes r6 (fun y30 =>
  k0 y30)) (code_writer_both_c5 F N r3 Vars Ports Timers Nodes r4 (fun y31 =>
  k0 y31)))
 else
  (code_writer_both_c12 F N r3 Vars Ports Timers Nodes r4 Kind N_ Name Kids At (fun y74 =>
  k0 y74))))
noncomputable def code_writer_both_D (F : Fam_code_writer_expr) (hF : Fam_code_writer_expr_ok F) (N : Nat) : FD E0 := { f := 87, fn := Tryz.f87, q := code_writer_both_q, cuts := [{ key := 7, live := [0, 4, 5], out := fun | .ret => ([], []) | _ => ([], []), q := ⟨[.p 0 0 0, .i .i64, .i .i64], [z2, .rw .ins .own]⟩, G := fun R K a b c d e g h => code_writer_both_c7 F N a b c d e g h (pK ⟨[], [z2, .rw .ins .own]⟩ (K .ret) c d e g) }, { key := 5, live := [0, 4], out := fun | .ret => ([], []) | _ => ([], []), q := ⟨[.p 0 0 0, .i .i64], [z2, .rw .ins .own]⟩, G := fun R K a b c d e g => code_writer_both_c5 F N a b c d e g (pK ⟨[], [z2, .rw .ins .own]⟩ (K .ret) b c d e) }, { key := 17, live := [0, 7, 8], out := fun | .normal => ([], []) | _ => ([], []), q := ⟨[.p 0 0 0, .i .i64, .i .i64], [z2, .rw .ins .own]⟩, G := fun R K a b c d e g h => code_writer_both_c17 F N a b c d e g h (pK ⟨[], [z2, .rw .ins .own]⟩ (K .normal) c d e g) }, { key := 16, live := [0, 7], out := fun | .normal => ([], []) | _ => ([], []), q := ⟨[.p 0 0 0, .i .i64], [z2, .rw .ins .own]⟩, G := fun R K a b c d e g => code_writer_both_c16 F N a b c d e g (pK ⟨[], [z2, .rw .ins .own]⟩ (K .normal) b c d e) }, { key := 12, live := [0, 3, 4], out := fun | .normal => ([], []) | _ => ([], []), q := ⟨[.p 0 0 0, .p 2 0 0, .i .i64], [z2, .rw .ins .own, z0]⟩, G := fun R K a b c d e g h i j l m => code_writer_both_c12 F N a b c d e g h i j l m (pK ⟨[], [z2, .rw .ins .own]⟩ (K .normal) b c d e) }], g := [⟨code_writer_expr_C F, hF.code_writer_expr⟩, code_writer_expr_2_S N, code_writer_push_2_S N, code_writer_put_2_S N, code_writer_here_S N] }
noncomputable def Fam_code_writer_expr_next (F : Fam_code_writer_expr) (N : Nat) : Fam_code_writer_expr where
 code_writer_expr := fun R Kind N_ Name Kids At Vars Ports Timers Nodes k0 => code_writer_expr_d F N Kind N_ Name Kids At Vars Ports Timers Nodes k0
 code_writer_both := fun R Kind N_ Name Kids At Vars Ports Timers Nodes k0 => code_writer_both_d F N Kind N_ Name Kids At Vars Ports Timers Nodes k0
noncomputable def Fam_code_writer_expr_at (N : Nat) : Nat → Fam_code_writer_expr
 | 0 => { code_writer_expr := fun _ _ _ _ _ _ _ _ _ _ _ => none, code_writer_both := fun _ _ _ _ _ _ _ _ _ _ _ => none }
 | d + 1 => Fam_code_writer_expr_next (Fam_code_writer_expr_at N d) N
noncomputable def code_writer_expr {R : Type} (N : Nat) (Kind N_ : Int) (Name : List UInt8) (Kids : List Expr) (At : Int) (Vars Ports Timers : List (List UInt8)) (Nodes : List Node) (k0 : (List Ins) → Option R) : Option R := (Fam_code_writer_expr_at N N).code_writer_expr R Kind N_ Name Kids At Vars Ports Timers Nodes k0
noncomputable def code_writer_both {R : Type} (N : Nat) (Kind N_ : Int) (Name : List UInt8) (Kids : List Expr) (At : Int) (Vars Ports Timers : List (List UInt8)) (Nodes : List Node) (k0 : (List Ins) → Option R) : Option R := (Fam_code_writer_expr_at N N).code_writer_both R Kind N_ Name Kids At Vars Ports Timers Nodes k0
def z4 : ShO S := .bx [.i .i64, .i .i64, .i .i64, .st]
noncomputable def code_Most_l2_b {R : Type} (N : Nat) (sum_24 at_26 : Int) (v_27 : List Ins) (v_28 v_29 i_32 i_33 i_34 : Int) (i_35 : List UInt8) (kp0 : Int → (List Int) → (List Int) → Option R) (rec : Int → (List Int) → (List Int) → Option R) (times_25 : Int) (ends_30 was_31 : List Int) : Option R :=
 (ifB (decide (((ends_30.length : Nat) : Int) > 0)) true (if (0 : Int) ≤ IntKind.wrap .i64 (((ends_30.length : Nat) : Int) - 1) ∧ IntKind.wrap .i64 (((ends_30.length : Nat) : Int) - 1) < (ends_30.length : Int) then (match ends_30[(IntKind.wrap .i64 (((ends_30.length : Nat) : Int) - 1)).toNat]? with
  | some e36 => (some (decide (e36 ≤ at_26)))
  | none => none) else none) (some false)).bind fun c37 =>
 if c37 = true then
  (if (0 : Int) ≤ IntKind.wrap .i64 (((was_31.length : Nat) : Int) - 1) ∧ IntKind.wrap .i64 (((was_31.length : Nat) : Int) - 1) < (was_31.length : Int) then (match was_31[(IntKind.wrap .i64 (((was_31.length : Nat) : Int) - 1)).toNat]? with
  | some e38 => (if (0 : Int) ≤ 0 ∧ 0 ≤ IntKind.wrap .i64 (((ends_30.length : Nat) : Int) - 1) ∧ IntKind.wrap .i64 (((ends_30.length : Nat) : Int) - 1) ≤ ((ends_30.length : Nat) : Int) then (if (0 : Int) ≤ 0 ∧ 0 ≤ IntKind.wrap .i64 (((was_31.length : Nat) : Int) - 1) ∧ IntKind.wrap .i64 (((was_31.length : Nat) : Int) - 1) ≤ ((was_31.length : Nat) : Int) then (rec e38 (ends_30.take ((IntKind.wrap .i64 (((ends_30.length : Nat) : Int) - 1)).toNat - (Int.toNat 0))) (was_31.take ((IntKind.wrap .i64 (((was_31.length : Nat) : Int) - 1)).toNat - (Int.toNat 0)))) else none) else none)
  | none => none) else none)
 else
  (kp0 times_25 ends_30 was_31)
noncomputable def code_Most_l2 {R : Type} (N : Nat) (sum_24 at_26 : Int) (v_27 : List Ins) (v_28 v_29 i_32 i_33 i_34 : Int) (i_35 : List UInt8) (kp0 : Int → (List Int) → (List Int) → Option R) : Nat → Int → (List Int) → (List Int) → Option R
 | 0 => fun _ _ _ => none
 | n + 1 => fun times_25 ends_30 was_31 => code_Most_l2_b N sum_24 at_26 v_27 v_28 v_29 i_32 i_33 i_34 i_35 kp0 (code_Most_l2 N sum_24 at_26 v_27 v_28 v_29 i_32 i_33 i_34 i_35 kp0 n) times_25 ends_30 was_31
noncomputable def code_Most_l0_b {R : Type} (N : Nat) (v_3 : List Ins) (v_4 : Int) (kp0 : Int → Option R) (rec : Int → Int → Int → (List Int) → (List Int) → Option R) (sum_1 times_2 v_5 : Int) (ends_6 was_7 : List Int) : Option R :=
 if (decide (v_5 < v_4)) = true then
  ((at? v_3 v_5).bind fun e8 =>
 code_Most_l2 N sum_1 v_5 v_3 v_4 v_5 e8.Op e8.A e8.N e8.S (fun y39 y40 y41 =>
 if (e8.Op == 25) = true then
  (if y40.length + [e8.A].length ≤ maxRow then (if y41.length + [y39].length ≤ maxRow then (rec (IntKind.wrap .i64 (sum_1 + y39)) (IntKind.wrap .i64 (y39 * e8.N)) (IntKind.wrap .i64 (v_5 + 1)) (y40 ++ [e8.A]) (y41 ++ [y39])) else none) else none)
 else
  (rec (IntKind.wrap .i64 (sum_1 + y39)) y39 (IntKind.wrap .i64 (v_5 + 1)) y40 y41)) N times_2 ends_6 was_7)
 else
  (kp0 sum_1)
noncomputable def code_Most_l0 {R : Type} (N : Nat) (v_3 : List Ins) (v_4 : Int) (kp0 : Int → Option R) : Nat → Int → Int → Int → (List Int) → (List Int) → Option R
 | 0 => fun _ _ _ _ _ => none
 | n + 1 => fun sum_1 times_2 v_5 ends_6 was_7 => code_Most_l0_b N v_3 v_4 kp0 (code_Most_l0 N v_3 v_4 kp0 n) sum_1 times_2 v_5 ends_6 was_7
noncomputable def code_Most {R : Type} (N : Nat) (c : List Ins) (k0 : Int → Option R) : Option R :=
 code_Most_l0 N c ((c.length : Nat) : Int) (fun y42 =>
 k0 y42) N 0 1 0 ([] : List Int) ([] : List Int)
noncomputable def code_Most_D (N : Nat) : FD E0 := { f := 18, fn := Tryz.f18, q := ⟨[.t .ins], []⟩, loops := [{ cur := 2, live := [3, 4, 5, 6, 7, 8, 9, 10, 11], fix := [(⟨5, []⟩, .fresh .int .own), (⟨6, []⟩, .fresh .i64 .own)], out := fun | .exit 2 => ([3, 4, 5, 6, 8, 9, 10, 11], []) | _ => ([], []), q := ⟨[.i .i64, .i .i64, .sw 0, .sw 1, .i .i64, .p 2 0 0, .t .ins, .i .i64, .i .i64], [.rw .int .own, .rw .i64 .own, z4]⟩, G := fun R K n a b c d e g h i j l m o => code_Most_l2 N a c d e g j l m o (fun p q s => pK ⟨[.i .i64, .i .i64, .sw 0, .sw 1, .p 2 0 0, .t .ins, .i .i64, .i .i64], [.rw .int .own, .rw .i64 .own, z4]⟩ (K (.exit 2)) a p d e g q s j l m o) n b h i, B := fun R K rec a b c d e g h i j l m o => code_Most_l2_b N a c d e g j l m o (fun p q s => pK ⟨[.i .i64, .i .i64, .sw 0, .sw 1, .p 2 0 0, .t .ins, .i .i64, .i .i64], [.rw .int .own, .rw .i64 .own, z4]⟩ (K (.exit 2)) a p d e g q s j l m o) (fun b h i => rec a b c d e g h i j l m o) b h i }, { cur := 0, live := [3, 4, 5, 6, 9, 10, 11], fix := [(⟨5, []⟩, .row .int .own), (⟨6, []⟩, .row .i64 .own)], out := fun | .exit 0 => ([3], []) | _ => ([], []), q := ⟨[.i .i64, .i .i64, .sw 0, .sw 1, .t .ins, .i .i64, .i .i64], [.rw .int .own, .rw .i64 .own]⟩, G := fun R K n a b c d e g h => code_Most_l0 N c d (pK ⟨[.i .i64], []⟩ (K (.exit 0))) n a b e g h, B := fun R K rec a b c d e g h => code_Most_l0_b N c d (pK ⟨[.i .i64], []⟩ (K (.exit 0))) (fun a b e g h => rec a b c d e g h) a b e g h }], mode := fun | 54 => .own | 55 => .own | 58 => .own | 59 => .own | _ => .app }
noncomputable def code_Most_S (N : Nat) : OC E0 := ⟨_, FD.ct e0 (code_Most_D N) N (fun R k a => code_Most N a (oK ⟨.i .i64, [], []⟩ k))⟩
noncomputable def r37_Row_Next {R : Type} (N : Nat) (n_ : Int) (L : List Int) (At : Int) (k0 : Int → Int → Option R) : Option R :=
 if (decide (At ≥ ((L.length : Nat) : Int))) = true then
  (k0 0 At)
 else
  ((at? L (IntKind.wrap .i64 ((IntKind.wrap .i64 (At + 1)) - 1))).bind fun e1 =>
 r37_Place N e1 n_ (fun r2 =>
 k0 r2 (IntKind.wrap .i64 (At + 1))))
noncomputable def r37_Row_Next_D (N : Nat) : FD E0 := { f := 13, fn := Tryz.f13, q := ⟨[.p 0 0 0, .i .i64], [.bx [.t .int, .i .i64]]⟩, g := [r37_Place_S N] }
noncomputable def r37_Row_Next_S (N : Nat) : OC E0 := ⟨_, FD.ct e0 (r37_Row_Next_D N) N (fun R k a b c => r37_Row_Next N a b c (fun d => oK ⟨.i .i64, [.bx [.t .int, .i .i64]], []⟩ k d b))⟩
noncomputable def r37_pick {R : Type} (N : Nat) (l : List (List UInt8)) (or_ : List UInt8) (L : List Int) (At : Int) (k0 : (List UInt8) → Int → Option R) : Option R :=
 if (((l.length : Nat) : Int) == 0) = true then
  (k0 or_ At)
 else
  (r37_Row_Next N ((l.length : Nat) : Int) L At (fun r1 r2 =>
 (at? l r1).bind fun e3 =>
 k0 e3 r2))
noncomputable def r37_pick_D (N : Nat) : FD E0 := { f := 15, fn := Tryz.f15, q := ⟨[.p 0 0 0, .t .str, .st], [.bx [.t .int, .i .i64]]⟩, g := [r37_Row_Next_S N] }
noncomputable def r37_pick_S (N : Nat) : OC E0 := ⟨_, FD.ct e0 (r37_pick_D N) N (fun R k a b c d => r37_pick N a b c d (fun e => oK ⟨.st, [.bx [.t .int, .i .i64]], []⟩ k e c))⟩
structure Fam_r37_Expr where
 r37_Expr : (R : Type) → (List (List UInt8)) → (List (List UInt8)) → (List (List UInt8)) → (List (List UInt8)) → Int → (List Int) → Int → (Int → Int → (List UInt8) → (List Expr) → Int → Int → Option R) → Option R
def r37_Expr_q : Pat S := ⟨[.p 0 0 0, y0, .i .i64], [.bx [.t .int, .i .i64]]⟩
noncomputable def r37_Expr_C (F : Fam_r37_Expr) : Ct S := ⟨14, r37_Expr_q, fun R k a b c d e g h => F.r37_Expr R a b c d e g h (fun i j l m o => oK ⟨y2, [.bx [.t .int, .i .i64]], []⟩ k i j l m o g)⟩
structure Fam_r37_Expr_ok (F : Fam_r37_Expr) : Prop where
 r37_Expr : (r37_Expr_C F).ok E0
def z5 : ShO S := .bx [.i .i64, .i .i64, .st, .ns, .i .i64]
def z6 : ShO S := .bx [.i .i64, .i .i64, .st, .sw 2, .i .i64]
def z7 : ShO S := .bx [.t .str, .t .str, .t .str, .t .str]
noncomputable def r37_Expr_c4 (F : Fam_r37_Expr) {R : Type} (N : Nat) (deep_4 k_5 : Int) (r_6 : List Int) (r_7 : Int) (s_8 s_9 s_10 s_11 : List (List UInt8)) (v_12 v_13 : Int) (v_14 : List UInt8) (v_15 : Int) (kp0 : Int → Int → Int → (List UInt8) → Int → Option R) (kp1 : Int → Int → Int → (List UInt8) → Int → (List Expr) → Option R) : Option R :=
 if (decide (k_5 < 2)) = true then
  (r37_Row_Next N 6 r_6 r_7 (fun r16 r17 =>
  (at? [0, 1, 2, 7, 1099511627776, 9223372036854775807] r16).bind fun e18 =>
  kp0 r17 1 e18 [] 0))
 else
  ((ifB (k_5 == 2) true (some (decide (((s_8.length : Nat) : Int) > 0))) (some false)).bind fun c19 =>
  if c19 = true then
   (r37_pick N s_8 [] r_6 r_7 (fun r20 r21 =>
   kp0 r21 2 0 r20 0))
  else
   ((ifB (k_5 == 3) true (some (decide (((s_11.length : Nat) : Int) > 0))) (some false)).bind fun c22 =>
   if c22 = true then
    (r37_pick N s_11 [] r_6 r_7 (fun r23 r24 =>
    kp0 r24 4 0 r23 0))
   else
    (if (decide (k_5 < 6)) = true then
     (kp0 r_7 3 0 [] 0)
    else
     (if (k_5 == 6) = true then
      (r37_Row_Next N 2 r_6 r_7 (fun r25 r26 =>
      F.r37_Expr _ s_8 s_9 s_10 s_11 (IntKind.wrap .i64 (deep_4 - 1)) r_6 r26 (fun r27 r28 r29 r30 r31 r32 =>
      kp1 r32 (IntKind.wrap .i64 (5 + r25)) 0 [] 0 [(⟨r27, r28, r29, r30, r31⟩ : Expr)])))
     else
      (F.r37_Expr _ s_8 s_9 s_10 s_11 (IntKind.wrap .i64 (deep_4 - 1)) r_6 r_7 (fun r33 r34 r35 r36 r37 r38 =>
 r37_Row_Next N 13 r_6 r38 (fun r39 r40 =>
 F.r37_Expr _ s_8 s_9 s_10 s_11 (IntKind.wrap .i64 (deep_4 - 1)) r_6 r40 (fun r41 r42 r43 r44 r45 r46 =>
 kp1 r46 (IntKind.wrap .i64 (7 + r39)) 0 [] 0 [(⟨r33, r34, r35, r36, r37⟩ : Expr), (⟨r41, r42, r43, r44, r45⟩ : Expr)]))))))))
noncomputable def r37_Expr_d (F : Fam_r37_Expr) {R : Type} (N : Nat) (Vars Ports Timers States : List (List UInt8)) (deep : Int) (L : List Int) (At : Int) (k0 : Int → Int → (List UInt8) → (List Expr) → Int → Int → Option R) : Option R :=
 r37_Row_Next N 14 L At (fun r1 r2 =>
 (ifB (deep == 0) true (some (decide (r1 > 5))) (some false)).bind fun c3 =>
 if c3 = true then
  (r37_Expr_c4 F N deep (Int.tmod r1 6) L r2 Vars Ports Timers States 0 0 [] 0 (fun y47 y48 y49 y50 y51 =>
  k0 y48 y49 y50 ([] : List Expr) y51 y47)
   (fun y52 y53 y54 y55 y56 y57 =>
  k0 y53 y54 y55 y57 y56 y52))
 else
  (r37_Expr_c4 F N deep r1 L r2 Vars Ports Timers States 0 0 [] 0 (fun y58 y59 y60 y61 y62 =>
  k0 y59 y60 y61 ([] : List Expr) y62 y58)
   (fun y63 y64 y65 y66 y67 y68 =>
  k0 y64 y65 y66 y68 y67 y63)))
noncomputable def r37_Expr_D (F : Fam_r37_Expr) (hF : Fam_r37_Expr_ok F) (N : Nat) : FD E0 := { f := 14, fn := Tryz.f14, q := r37_Expr_q, cuts := [{ key := 4, live := [0, 2, 4, 6, 7], out := fun | .ret => ([6], []) | _ => ([], []), q := ⟨[.p 0 0 0, .i .i64, .p 1 0 0, .p 2 0 0, .i .i64], [.bx [.t .int, .i .i64], z7, z5]⟩, G := fun R K a b c d e g h i j l m o => r37_Expr_c4 F N a b c d e g h i j l m o (pK ⟨[.p 1 0 0], [.bx [.t .int, .i .i64], z5]⟩ (K .ret) c) (pK ⟨[.p 1 0 0], [.bx [.t .int, .i .i64], z6, .rw .expr .app]⟩ (K .ret) c) }], g := [r37_Row_Next_S N, ⟨r37_Expr_C F, hF.r37_Expr⟩, r37_pick_S N], exit := [(⟨6, [3]⟩, .tree .expr)] }
theorem r37_Expr_okF (F : Fam_r37_Expr) (hF : Fam_r37_Expr_ok F) (N : Nat) : Ct.ok E0 ⟨(r37_Expr_D F hF N).f, (r37_Expr_D F hF N).q, fun R k a b c d e g h => r37_Expr_d F N a b c d e g h (fun i j l m o => oK ⟨y2, [.bx [.t .int, .i .i64]], []⟩ k i j l m o g)⟩ := FD.ct e0 (r37_Expr_D F hF N) N (fun R k a b c d e g h => r37_Expr_d F N a b c d e g h (fun i j l m o => oK ⟨y2, [.bx [.t .int, .i .i64]], []⟩ k i j l m o g))
noncomputable def Fam_r37_Expr_next (F : Fam_r37_Expr) (N : Nat) : Fam_r37_Expr where
 r37_Expr := fun R Vars Ports Timers States deep L At k0 => r37_Expr_d F N Vars Ports Timers States deep L At k0
noncomputable def Fam_r37_Expr_at (N : Nat) : Nat → Fam_r37_Expr
 | 0 => { r37_Expr := fun _ _ _ _ _ _ _ _ _ => none }
 | d + 1 => Fam_r37_Expr_next (Fam_r37_Expr_at N d) N
theorem Fam_r37_Expr_at_ok (N : Nat) : ∀ d, Fam_r37_Expr_ok (Fam_r37_Expr_at N d)
 | 0 => { r37_Expr := Ct.ok_none }
 | d + 1 => { r37_Expr := r37_Expr_okF _ (Fam_r37_Expr_at_ok N d) N }
noncomputable def r37_Expr {R : Type} (N : Nat) (Vars Ports Timers States : List (List UInt8)) (deep : Int) (L : List Int) (At : Int) (k0 : Int → Int → (List UInt8) → (List Expr) → Int → Int → Option R) : Option R := (Fam_r37_Expr_at N N).r37_Expr R Vars Ports Timers States deep L At k0
noncomputable def r37_Expr_S (N : Nat) : OC E0 := ⟨r37_Expr_C (Fam_r37_Expr_at N N), (Fam_r37_Expr_at_ok N N).r37_Expr⟩
def z9 : ShO S := .bx [.i .i64, .sw 1, .ns, .ns, .i .i64, .i .i64, .ns, .i .i64, .sw 2, .ns, .i .i64]
noncomputable def r3_Has_l0_b {R : Type} (N : Nat) (i_1 k_2 : Int) (kp0 : Option R) (rec : Option R)  : Option R :=
 if (decide (k_2 < 0)) = true then
  (none)
 else
  (kp0 )
noncomputable def r3_Has_l0 {R : Type} (N : Nat) (i_1 k_2 : Int) (kp0 : Option R) : Nat → Option R
 | 0 => none
 | n + 1 => r3_Has_l0_b N i_1 k_2 kp0 (r3_Has_l0 N i_1 k_2 kp0 n)
noncomputable def r3_Has {R : Type} (N : Nat) (i : Int) (k0 : Bool → Option R) : Option R :=
 r3_Has_l0 N i 0 (k0 false) N 
noncomputable def r3_Has_D (N : Nat) : FD E0 := { f := 48, fn := Tryz.f48, q := ⟨[.ns, .i .i64], []⟩, loops := [{ cur := 0, live := [0, 1, 5], out := fun | .exit 0 => ([], []) | _ => ([], []), q := ⟨[.ns, .i .i64, .i .i64], []⟩, G := fun R K n a b => r3_Has_l0 N a b (pK ⟨[], []⟩ (K (.exit 0))) n , B := fun R K rec a b => r3_Has_l0_b N a b (pK ⟨[], []⟩ (K (.exit 0))) (rec a b)  }] }
noncomputable def r3_Has_S (N : Nat) : OC E0 := ⟨_, FD.ct e0 (r3_Has_D N) N (fun R k a => r3_Has N a (oK ⟨.b, [], []⟩ k))⟩
noncomputable def r17_truth {R : Type} (N : Nat) (b : Bool) (k0 : Int → Option R) : Option R :=
 if b = true then
  (k0 1)
 else
  (k0 0)
noncomputable def r17_truth_D (N : Nat) : FD E0 := { f := 47, fn := Tryz.f47, q := ⟨[.b], []⟩ }
noncomputable def r17_truth_S (N : Nat) : OC E0 := ⟨_, FD.ct e0 (r17_truth_D N) N (fun R k a => r17_truth N a (oK ⟨.i .i64, [], []⟩ k))⟩
noncomputable def r1_Sub {R : Type} (N : Nat) (a b : Int) (k0 : Int → Int → Option R) : Option R :=
 (ifB (decide (b < 0)) true (some (decide (a > (IntKind.wrap .i64 (9223372036854775807 + b))))) (some false)).bind fun c1 =>
 (ifB c1 false ((ifB (decide (b > 0)) true (some (decide (a < (IntKind.wrap .i64 ((-9223372036854775808) + b))))) (some false)).bind fun c2 =>
 some c2) (some true)).bind fun c3 =>
 if c3 = true then
  (k0 0 2)
 else
  (k0 (IntKind.wrap .i64 (a - b)) 0)
noncomputable def r1_Sub_D (N : Nat) : FD E0 := { f := 75, fn := Tryz.f75, q := ⟨[.i .i64, .i .i64], []⟩ }
noncomputable def r1_Sub_S (N : Nat) : OC E0 := ⟨_, FD.ct e0 (r1_Sub_D N) N (fun R k a b => r1_Sub N a b (oK ⟨.tp [.i .i64, .i .i64], [], []⟩ k))⟩
noncomputable def r1_Neg {R : Type} (N : Nat) (a : Int) (k0 : Int → Int → Option R) : Option R :=
 r1_Sub N 0 a (fun r1 r2 =>
 k0 r1 r2)
noncomputable def r1_Neg_D (N : Nat) : FD E0 := { f := 50, fn := Tryz.f50, q := ⟨[.i .i64], []⟩, g := [r1_Sub_S N] }
noncomputable def r1_Neg_S (N : Nat) : OC E0 := ⟨_, FD.ct e0 (r1_Neg_D N) N (fun R k a => r1_Neg N a (oK ⟨.tp [.i .i64, .i .i64], [], []⟩ k))⟩
noncomputable def r1_Mul {R : Type} (N : Nat) (a b : Int) (k0 : Int → Int → Option R) : Option R :=
 (ifB (a == 0) false (some (b == 0)) (some true)).bind fun c1 =>
 if c1 = true then
  (k0 0 0)
 else
  ((ifB (a == (-1)) true (some (b == (-9223372036854775808))) (some false)).bind fun c2 =>
  (ifB c2 false ((ifB (b == (-1)) true (some (a == (-9223372036854775808))) (some false)).bind fun c3 =>
  some c3) (some true)).bind fun c4 =>
  if c4 = true then
   (k0 0 2)
  else
   (if b = 0 then none else (if ((IntKind.wrap .i64 (Int.tdiv (IntKind.wrap .i64 (a * b)) b)) != a) = true then
     (k0 0 2)
    else
     (k0 (IntKind.wrap .i64 (a * b)) 0))))
noncomputable def r1_Mul_D (N : Nat) : FD E0 := { f := 76, fn := Tryz.f76, q := ⟨[.i .i64, .i .i64], []⟩ }
noncomputable def r1_Mul_S (N : Nat) : OC E0 := ⟨_, FD.ct e0 (r1_Mul_D N) N (fun R k a b => r1_Mul N a b (oK ⟨.tp [.i .i64, .i .i64], [], []⟩ k))⟩
noncomputable def r1_Div {R : Type} (N : Nat) (a b : Int) (k0 : Int → Int → Option R) : Option R :=
 if (b == 0) = true then
  (k0 0 3)
 else
  ((ifB (b == (-1)) true (some (a == (-9223372036854775808))) (some false)).bind fun c1 =>
  if c1 = true then
   (k0 0 2)
  else
   (if b = 0 then none else (k0 (IntKind.wrap .i64 (Int.tdiv a b)) 0)))
noncomputable def r1_Div_D (N : Nat) : FD E0 := { f := 77, fn := Tryz.f77, q := ⟨[.i .i64, .i .i64], []⟩ }
noncomputable def r1_Div_S (N : Nat) : OC E0 := ⟨_, FD.ct e0 (r1_Div_D N) N (fun R k a b => r1_Div N a b (oK ⟨.tp [.i .i64, .i .i64], [], []⟩ k))⟩
noncomputable def r1_Mod {R : Type} (N : Nat) (a b : Int) (k0 : Int → Int → Option R) : Option R :=
 if (b == 0) = true then
  (k0 0 3)
 else
  (if (b == (-1)) = true then
   (k0 0 0)
  else
   (if b = 0 then none else (k0 (Int.tmod a b) 0)))
noncomputable def r1_Mod_D (N : Nat) : FD E0 := { f := 78, fn := Tryz.f78, q := ⟨[.i .i64, .i .i64], []⟩ }
noncomputable def r1_Mod_S (N : Nat) : OC E0 := ⟨_, FD.ct e0 (r1_Mod_D N) N (fun R k a b => r1_Mod N a b (oK ⟨.tp [.i .i64, .i .i64], [], []⟩ k))⟩
noncomputable def r1_Add {R : Type} (N : Nat) (a b : Int) (k0 : Int → Int → Option R) : Option R :=
 (ifB (decide (b > 0)) true (some (decide (a > (IntKind.wrap .i64 (9223372036854775807 - b))))) (some false)).bind fun c1 =>
 (ifB c1 false ((ifB (decide (b < 0)) true (some (decide (a < (IntKind.wrap .i64 ((-9223372036854775808) - b))))) (some false)).bind fun c2 =>
 some c2) (some true)).bind fun c3 =>
 if c3 = true then
  (k0 0 2)
 else
  (k0 (IntKind.wrap .i64 (a + b)) 0)
noncomputable def r1_Add_D (N : Nat) : FD E0 := { f := 79, fn := Tryz.f79, q := ⟨[.i .i64, .i .i64], []⟩ }
noncomputable def r1_Add_S (N : Nat) : OC E0 := ⟨_, FD.ct e0 (r1_Add_D N) N (fun R k a b => r1_Add N a b (oK ⟨.tp [.i .i64, .i .i64], [], []⟩ k))⟩
noncomputable def r17_two {R : Type} (N : Nat) (op a b : Int) (k0 : Int → Int → Option R) : Option R :=
 if (op == 7) = true then
  (r1_Mul N a b (fun r1 r2 =>
  k0 r1 r2))
 else
  (if (op == 8) = true then
   (r1_Div N a b (fun r3 r4 =>
   k0 r3 r4))
  else
   (if (op == 9) = true then
    (r1_Mod N a b (fun r5 r6 =>
    k0 r5 r6))
   else
    (if (op == 10) = true then
     (r1_Add N a b (fun r7 r8 =>
     k0 r7 r8))
    else
     (if (op == 11) = true then
      (r1_Sub N a b (fun r9 r10 =>
      k0 r9 r10))
     else
      (if (op == 12) = true then
       (r17_truth N (decide (a < b)) (fun r11 =>
       k0 r11 0))
      else
       (if (op == 13) = true then
        (r17_truth N (decide (a ≤ b)) (fun r12 =>
        k0 r12 0))
       else
        (if (op == 14) = true then
         (r17_truth N (decide (a > b)) (fun r13 =>
         k0 r13 0))
        else
         (if (op == 15) = true then
          (r17_truth N (decide (a ≥ b)) (fun r14 =>
          k0 r14 0))
         else
          (if (op == 16) = true then
           (r17_truth N (a == b) (fun r15 =>
           k0 r15 0))
          else
           (r17_truth N (a != b) (fun r16 =>
 k0 r16 0)))))))))))
noncomputable def r17_two_D (N : Nat) : FD E0 := { f := 51, fn := Tryz.f51, q := ⟨[.i .i64, .i .i64, .i .i64], []⟩, g := [r17_truth_S N, r1_Sub_S N, r1_Mul_S N, r1_Div_S N, r1_Mod_S N, r1_Add_S N] }
noncomputable def r17_two_S (N : Nat) : OC E0 := ⟨_, FD.ct e0 (r17_two_D N) N (fun R k a b c => r17_two N a b c (oK ⟨.tp [.i .i64, .i .i64], [], []⟩ k))⟩
def z14 : ShO S := .bx [.i .i64, .sw 1, .ns, .ns, .i .i64, .i .i64, .ns, .i .i64, .sw 3, .ns, .i .i64]
noncomputable def r17_running_take_2 {R : Type} (N : Nat) (Value Cost Code arg at_ : Int) (Vars row : List Int) (k0 : Int → (List Int) → Option R) : Option R :=
 if (((row.length : Nat) : Int) == 0) = true then
  (k0 0 row)
 else
  (if (0 : Int) ≤ IntKind.wrap .i64 (((row.length : Nat) : Int) - 1) ∧ IntKind.wrap .i64 (((row.length : Nat) : Int) - 1) < (row.length : Int) then (match row[(IntKind.wrap .i64 (((row.length : Nat) : Int) - 1)).toNat]? with
  | some e1 => (if (0 : Int) ≤ 0 ∧ 0 ≤ IntKind.wrap .i64 (((row.length : Nat) : Int) - 1) ∧ IntKind.wrap .i64 (((row.length : Nat) : Int) - 1) ≤ ((row.length : Nat) : Int) then (k0 e1 (row.take ((IntKind.wrap .i64 (((row.length : Nat) : Int) - 1)).toNat - (Int.toNat 0)))) else none)
  | none => none) else none)
noncomputable def r17_running_take_2_D (N : Nat) : FD E0 := { f := 49, fn := Tryz.f49, q := ⟨[.p 0 0 0], [z9, .rw .i64 .own, .rw .i64 .own]⟩, exit := [(⟨0, [8]⟩, .fresh .i64 .own)] }
noncomputable def r17_running_take_2_S (N : Nat) : OC E0 := ⟨_, FD.ct e0 (r17_running_take_2_D N) N (fun R k a b c d e g h => r17_running_take_2 N a b c d e g h (fun i => oK ⟨.i .i64, [z14, .rw .i64 .own, .g], [.rw .i64 .own]⟩ k i a b c d e g))⟩
def z15 : ShO S := .bx [.i .i64, .sw 1, .sw 3, .ns, .i .i64, .i .i64, .ns, .i .i64, .sw 4, .ns, .i .i64]
def z16 : ShO S := .bx [.i .i64, .sw 1, .ns, .sw 3, .i .i64, .i .i64, .ns, .i .i64, .sw 4, .ns, .i .i64]
noncomputable def r17_running_act_2_c4 {R : Type} (N : Nat) (n_3 r_4 r_5 r_6 r_7 r_8 : Int) (o_9 o_10 : List Int) (i_11 i_12 i_13 : Int) (i_14 : List UInt8) (kp0 : Int → (List Int) → Option R) (kp1 : Int → (List Msg) → Option R) (kp2 : Int → (List Effc) → Option R) : Option R :=
 if (i_11 == 18) = true then
  ((ifB (decide (i_12 ≥ 0)) true (some (decide (i_12 < ((o_9.length : Nat) : Int)))) (some false)).bind fun c15 =>
  if c15 = true then
   (if (0 : Int) ≤ i_12 ∧ i_12 < (o_9.length : Int) then (match o_9[i_12.toNat]? with
    | some e16 => (kp0 0 (o_9.set i_12.toNat n_3))
    | none => none) else none)
  else
   (kp0 0 o_9))
 else
  (if (i_11 == 19) = true then
   (if [(⟨i_14, n_3⟩ : Msg)].length ≤ maxRow then (kp1 0 [(⟨i_14, n_3⟩ : Msg)]) else none)
  else
   (if (i_11 == 20) = true then
    (if [(⟨1, i_12, (⟨i_14, n_3⟩ : Msg)⟩ : Effc)].length ≤ maxRow then (kp2 0 [(⟨1, i_12, (⟨i_14, n_3⟩ : Msg)⟩ : Effc)]) else none)
   else
    (if (i_11 == 21) = true then
     ((ifB (decide (n_3 < 1)) false (some (decide (n_3 > 65536))) (some true)).bind fun c17 =>
     if c17 = true then
      (kp0 1 o_9)
     else
      (if ([(⟨2, i_12, (⟨[], n_3⟩ : Msg)⟩ : Effc)]).length ≤ maxRow then (kp2 0 ([(⟨2, i_12, (⟨[], n_3⟩ : Msg)⟩ : Effc)])) else none))
    else
     (if (i_11 == 22) = true then
      (if ([(⟨3, i_12, (⟨[], 0⟩ : Msg)⟩ : Effc)]).length ≤ maxRow then (kp2 0 ([(⟨3, i_12, (⟨[], 0⟩ : Msg)⟩ : Effc)])) else none)
     else
      (kp0 0 o_9)))))
noncomputable def r17_running_act_2_D (N : Nat) : FD E0 := { f := 27, fn := Tryz.f27, q := ⟨[.p 0 0 0, y3], [z9, .rw .i64 .own, .rw .i64 .own]⟩, cuts := [{ key := 4, live := [0, 3, 5], fix := [(⟨0, [8]⟩, .fresh .i64 .own)], out := fun | .ret => ([0, 4], []) | _ => ([], []), q := ⟨[.p 0 0 0, .p 4 0 0, .i .i64], [z14, .rw .i64 .own, .g, .rw .i64 .own, z4]⟩, G := fun R K a b c d e g h i j l m o => r17_running_act_2_c4 N a b c d e g h i j l m o (fun p q => pK ⟨[.p 0 0 0, .i .i64], [z14, .rw .i64 .own, .g, .rw .i64 .own]⟩ (K .ret) p b c d e g q i) (fun p q => pK ⟨[.p 0 0 0, .i .i64], [z15, .rw .i64 .own, .g, .rw .msg .app, .rw .i64 .own]⟩ (K .ret) p b c d e g h q i) (fun p q => pK ⟨[.p 0 0 0, .i .i64], [z16, .rw .i64 .own, .g, .rw .effc .app, .rw .i64 .own]⟩ (K .ret) p b c d e g h q i) }], g := [r17_running_take_2_S N], exit := [(⟨0, [2]⟩, .row .msg .app), (⟨0, [3]⟩, .row .effc .app)] }
def z18 : ShO S := .bx [.i .i64, .sw 1, .sw 2, .sw 3, .i .i64, .i .i64, .ns, .i .i64, .sw 4, .ns, .i .i64]
def z19 : ShO S := .bx [.i .i64, .sw 1, .sw 2, .sw 3, .i .i64, .i .i64, .ns, .i .i64, .sw 5, .ns, .i .i64]
noncomputable def r17_running_put_3 {R : Type} (N : Nat) (n_ Value Cost Code arg at_ : Int) (Vars : List Int) (Raised : List Msg) (Effects : List Effc) (row : List Int) (k0 : (List Int) → Option R) : Option R :=
 if ([] : List Int).length + row.length ≤ maxRow then (if (([] : List Int) ++ row).length + [n_].length ≤ maxRow then (k0 ((([] : List Int) ++ row) ++ [n_])) else none) else none
noncomputable def r17_running_put_3_D (N : Nat) : FD E0 := { f := 46, fn := Tryz.f46, q := ⟨[.p 0 0 0, .i .i64], [z18, .rw .i64 .own, .rw .msg .app, .rw .effc .app, .rw .i64 .own]⟩, mode := fun | 5 => .own | 10 => .own | 12 => .own | 13 => .own | _ => .app }
noncomputable def r17_running_put_3_S (N : Nat) : OC E0 := ⟨_, FD.ct e0 (r17_running_put_3_D N) N (fun R k a b c d e g h i j l => r17_running_put_3 N a b c d e g h i j l (oK ⟨.tp [], [z19, .rw .i64 .own, .rw .msg .app, .rw .effc .app, .rw .i64 .own], [.rw .i64 .own]⟩ k b c d e g h i j l))⟩
noncomputable def r17_running_take_3 {R : Type} (N : Nat) (Value Cost Code arg at_ : Int) (Vars : List Int) (Raised : List Msg) (Effects : List Effc) (row : List Int) (k0 : Int → (List Int) → Option R) : Option R :=
 if (((row.length : Nat) : Int) == 0) = true then
  (k0 0 row)
 else
  (if (0 : Int) ≤ IntKind.wrap .i64 (((row.length : Nat) : Int) - 1) ∧ IntKind.wrap .i64 (((row.length : Nat) : Int) - 1) < (row.length : Int) then (match row[(IntKind.wrap .i64 (((row.length : Nat) : Int) - 1)).toNat]? with
  | some e1 => (if (0 : Int) ≤ 0 ∧ 0 ≤ IntKind.wrap .i64 (((row.length : Nat) : Int) - 1) ∧ IntKind.wrap .i64 (((row.length : Nat) : Int) - 1) ≤ ((row.length : Nat) : Int) then (k0 e1 (row.take ((IntKind.wrap .i64 (((row.length : Nat) : Int) - 1)).toNat - (Int.toNat 0)))) else none)
  | none => none) else none)
noncomputable def r17_running_take_3_D (N : Nat) : FD E0 := { f := 49, fn := Tryz.f49, q := ⟨[.p 0 0 0], [z18, .rw .i64 .own, .rw .msg .app, .rw .effc .app, .rw .i64 .own]⟩, exit := [(⟨0, [8]⟩, .fresh .i64 .own)] }
noncomputable def r17_running_take_3_S (N : Nat) : OC E0 := ⟨_, FD.ct e0 (r17_running_take_3_D N) N (fun R k a b c d e g h i j => r17_running_take_3 N a b c d e g h i j (fun l => oK ⟨.i .i64, [z19, .rw .i64 .own, .rw .msg .app, .rw .effc .app, .g], [.rw .i64 .own]⟩ k l a b c d e g h i))⟩
noncomputable def r17_running_reckon_3_c13 {R : Type} (N : Nat) (n_4 r_5 r_6 r_7 r_8 r_9 : Int) (o_10 : List Int) (o_11 : List Msg) (o_12 : List Effc) (o_13 : List Int) (kp0 : (List Int) → Option R) : Option R :=
 r17_running_put_3 N n_4 r_5 r_6 r_7 r_8 r_9 o_10 o_11 o_12 o_13 (fun r14 =>
 kp0 r14)
noncomputable def r17_running_reckon_3_D (N : Nat) : FD E0 := { f := 26, fn := Tryz.f26, q := ⟨[.p 0 0 0, y3], [z18, .rw .i64 .own, .rw .msg .app, .rw .effc .app, .rw .i64 .own]⟩, cuts := [{ key := 13, live := [0, 5], out := fun | .normal => ([], []) | _ => ([], []), q := ⟨[.p 0 0 0, .i .i64], [z18, .rw .i64 .own, .rw .msg .app, .rw .effc .app, .rw .i64 .own]⟩, G := fun R K a b c d e g h i j l => r17_running_reckon_3_c13 N a b c d e g h i j l (pK ⟨[], [z19, .rw .i64 .own, .rw .msg .app, .rw .effc .app, .rw .i64 .own, .rw .i64 .own]⟩ (K .normal) b c d e g h i j l) }], g := [r17_running_put_3_S N, r17_truth_S N, r3_Has_S N, r17_running_take_3_S N, r1_Neg_S N, r17_two_S N] }
def z22 : ShO S := .bx [.i .i64, .sw 1, .sw 2, .sw 3, .i .i64, .i .i64, .ns, .i .i64, .sw 4, .sw 5, .i .i64]
noncomputable def r17_running_move_2_D (N : Nat) : FD E0 := { f := 28, fn := Tryz.f28, q := ⟨[.p 0 0 0, y3], [z18, .rw .i64 .own, .rw .msg .app, .rw .effc .app, .rw .i64 .own]⟩, g := [r17_running_take_3_S N], mode := fun | 27 => .own | 32 => .own | 35 => .own | 36 => .own | _ => .app, exit := [(⟨0, [9]⟩, .fresh .i64 .own)] }
def z24 : ShO S := .bx [.i .i64, .sw 1, .sw 2, .sw 3, .i .i64, .i .i64, .ns, .i .i64, .sw 6, .sw 5, .i .i64]
noncomputable def r17_running_put_4 {R : Type} (N : Nat) (n_ Value Cost Code arg at_ : Int) (Vars : List Int) (Raised : List Msg) (Effects : List Effc) (row rounds : List Int) (k0 : (List Int) → Option R) : Option R :=
 if ([] : List Int).length + row.length ≤ maxRow then (if (([] : List Int) ++ row).length + [n_].length ≤ maxRow then (k0 ((([] : List Int) ++ row) ++ [n_])) else none) else none
noncomputable def r17_running_put_4_D (N : Nat) : FD E0 := { f := 46, fn := Tryz.f46, q := ⟨[.p 0 0 0, .i .i64], [z22, .rw .i64 .own, .rw .msg .app, .rw .effc .app, .rw .i64 .own, .rw .i64 .own]⟩, mode := fun | 5 => .own | 10 => .own | 12 => .own | 13 => .own | _ => .app }
noncomputable def r17_running_put_4_S (N : Nat) : OC E0 := ⟨_, FD.ct e0 (r17_running_put_4_D N) N (fun R k a b c d e g h i j l m => r17_running_put_4 N a b c d e g h i j l m (oK ⟨.tp [], [z24, .rw .i64 .own, .rw .msg .app, .rw .effc .app, .rw .i64 .own, .rw .i64 .own], [.rw .i64 .own]⟩ k b c d e g h i j l m))⟩
noncomputable def r17_running_take_4 {R : Type} (N : Nat) (Value Cost Code arg at_ : Int) (Vars : List Int) (Raised : List Msg) (Effects : List Effc) (row rounds : List Int) (k0 : Int → (List Int) → Option R) : Option R :=
 if (((row.length : Nat) : Int) == 0) = true then
  (k0 0 row)
 else
  (if (0 : Int) ≤ IntKind.wrap .i64 (((row.length : Nat) : Int) - 1) ∧ IntKind.wrap .i64 (((row.length : Nat) : Int) - 1) < (row.length : Int) then (match row[(IntKind.wrap .i64 (((row.length : Nat) : Int) - 1)).toNat]? with
  | some e1 => (if (0 : Int) ≤ 0 ∧ 0 ≤ IntKind.wrap .i64 (((row.length : Nat) : Int) - 1) ∧ IntKind.wrap .i64 (((row.length : Nat) : Int) - 1) ≤ ((row.length : Nat) : Int) then (k0 e1 (row.take ((IntKind.wrap .i64 (((row.length : Nat) : Int) - 1)).toNat - (Int.toNat 0)))) else none)
  | none => none) else none)
noncomputable def r17_running_take_4_D (N : Nat) : FD E0 := { f := 49, fn := Tryz.f49, q := ⟨[.p 0 0 0], [z22, .rw .i64 .own, .rw .msg .app, .rw .effc .app, .rw .i64 .own, .rw .i64 .own]⟩, exit := [(⟨0, [8]⟩, .fresh .i64 .own)] }
noncomputable def r17_running_take_4_S (N : Nat) : OC E0 := ⟨_, FD.ct e0 (r17_running_take_4_D N) N (fun R k a b c d e g h i j l => r17_running_take_4 N a b c d e g h i j l (fun m => oK ⟨.i .i64, [z24, .rw .i64 .own, .rw .msg .app, .rw .effc .app, .g, .rw .i64 .own], [.rw .i64 .own]⟩ k m a b c d e g h i l))⟩
noncomputable def r17_running_reckon_4_c13 {R : Type} (N : Nat) (n_4 r_5 r_6 r_7 r_8 r_9 : Int) (o_10 : List Int) (o_11 : List Msg) (o_12 : List Effc) (o_13 o_14 : List Int) (kp0 : (List Int) → Option R) : Option R :=
 r17_running_put_4 N n_4 r_5 r_6 r_7 r_8 r_9 o_10 o_11 o_12 o_13 o_14 (fun r15 =>
 kp0 r15)
noncomputable def r17_running_reckon_4 {R : Type} (N : Nat) (Op A N_ : Int) (S : List UInt8) (Value Cost Code arg at_ : Int) (Vars : List Int) (Raised : List Msg) (Effects : List Effc) (row rounds : List Int) (k0 k1 : Int → (List Int) → Option R) : Option R :=
 if (Op == 1) = true then
  (r17_running_put_4 N N_ Value Cost Code arg at_ Vars Raised Effects row rounds (fun r1 =>
  k0 0 r1))
 else
  (if (Op == 2) = true then
   ((ifB (decide (A ≥ 0)) true (some (decide (A < ((Vars.length : Nat) : Int)))) (some false)).bind fun c2 =>
   if c2 = true then
    (if (0 : Int) ≤ A ∧ A < (Vars.length : Int) then (match Vars[A.toNat]? with
     | some e3 => (r17_running_reckon_4_c13 N e3 Value Cost Code arg at_ Vars Raised Effects row rounds (fun y16 =>
      k0 0 y16))
     | none => none) else none)
   else
    (r17_running_reckon_4_c13 N 0 Value Cost Code arg at_ Vars Raised Effects row rounds (fun y17 =>
    k0 0 y17)))
  else
   (if (Op == 3) = true then
    (r17_running_put_4 N arg Value Cost Code arg at_ Vars Raised Effects row rounds (fun r18 =>
    k0 0 r18))
   else
    (if (Op == 4) = true then
     (r3_Has N A (fun r19 =>
     r17_truth N r19 (fun r20 =>
     r17_running_put_4 N r20 Value Cost Code arg at_ Vars Raised Effects row rounds (fun r21 =>
     k0 0 r21))))
    else
     (if (Op == 6) = true then
      (r17_running_take_4 N Value Cost Code arg at_ Vars Raised Effects row rounds (fun r22 r23 =>
      r17_truth N (r22 == 0) (fun r24 =>
      r17_running_put_4 N r24 Value Cost Code arg at_ Vars Raised Effects r23 rounds (fun r25 =>
      k1 0 r25))))
     else
      (if (Op == 5) = true then
       (r17_running_take_4 N Value Cost Code arg at_ Vars Raised Effects row rounds (fun r26 r27 =>
       r1_Neg N r26 (fun r28 r29 =>
       r17_running_put_4 N r28 Value Cost Code arg at_ Vars Raised Effects r27 rounds (fun r30 =>
       k1 r29 r30))))
      else
       (r17_running_take_4 N Value Cost Code arg at_ Vars Raised Effects row rounds (fun r31 r32 =>
       r17_running_take_4 N Value Cost Code arg at_ Vars Raised Effects r32 rounds (fun r33 r34 =>
       r17_two N Op r33 r31 (fun r35 r36 =>
       r17_running_put_4 N r35 Value Cost Code arg at_ Vars Raised Effects r34 rounds (fun r37 =>
       k1 r36 r37))))))))))
noncomputable def r17_running_reckon_4_D (N : Nat) : FD E0 := { f := 26, fn := Tryz.f26, q := ⟨[.p 0 0 0, y3], [z22, .rw .i64 .own, .rw .msg .app, .rw .effc .app, .rw .i64 .own, .rw .i64 .own]⟩, cuts := [{ key := 13, live := [0, 5], out := fun | .normal => ([], []) | _ => ([], []), q := ⟨[.p 0 0 0, .i .i64], [z22, .rw .i64 .own, .rw .msg .app, .rw .effc .app, .rw .i64 .own, .rw .i64 .own]⟩, G := fun R K a b c d e g h i j l m => r17_running_reckon_4_c13 N a b c d e g h i j l m (pK ⟨[], [z24, .rw .i64 .own, .rw .msg .app, .rw .effc .app, .rw .i64 .own, .rw .i64 .own, .rw .i64 .own]⟩ (K .normal) b c d e g h i j l m) }], g := [r17_running_put_4_S N, r17_truth_S N, r3_Has_S N, r17_running_take_4_S N, r1_Neg_S N, r17_two_S N] }
noncomputable def r17_running_reckon_4_S (N : Nat) : OC E0 := ⟨_, FD.ct e0 (r17_running_reckon_4_D N) N (fun R k a b c d e g h i j l m o p q => r17_running_reckon_4 N a b c d e g h i j l m o p q (fun s => oK ⟨.i .i64, [z24, .rw .i64 .own, .rw .msg .app, .rw .effc .app, .rw .i64 .own, .rw .i64 .own], [.rw .i64 .own]⟩ k s e g h i j l m o p q) (fun s => oK ⟨.i .i64, [z24, .rw .i64 .own, .rw .msg .app, .rw .effc .app, .g, .rw .i64 .own], [.rw .i64 .own]⟩ k s e g h i j l m o q))⟩
def z25 : ShO S := .bx [.i .i64, .sw 1, .sw 6, .sw 3, .i .i64, .i .i64, .ns, .i .i64, .sw 7, .sw 5, .i .i64]
def z26 : ShO S := .bx [.i .i64, .sw 1, .sw 2, .sw 6, .i .i64, .i .i64, .ns, .i .i64, .sw 7, .sw 5, .i .i64]
noncomputable def r17_running_act_4_c4 {R : Type} (N : Nat) (n_3 r_4 r_5 r_6 r_7 r_8 : Int) (o_9 : List Int) (o_10 : List Msg) (o_11 : List Effc) (o_12 o_13 : List Int) (i_14 i_15 i_16 : Int) (i_17 : List UInt8) (kp0 : Int → (List Int) → Option R) (kp1 : Int → (List Msg) → Option R) (kp2 : Int → (List Effc) → Option R) : Option R :=
 if (i_14 == 18) = true then
  ((ifB (decide (i_15 ≥ 0)) true (some (decide (i_15 < ((o_9.length : Nat) : Int)))) (some false)).bind fun c18 =>
  if c18 = true then
   (if (0 : Int) ≤ i_15 ∧ i_15 < (o_9.length : Int) then (match o_9[i_15.toNat]? with
    | some e19 => (kp0 0 (o_9.set i_15.toNat n_3))
    | none => none) else none)
  else
   (kp0 0 o_9))
 else
  (if (i_14 == 19) = true then
   (if o_10.length + [(⟨i_17, n_3⟩ : Msg)].length ≤ maxRow then (kp1 0 (o_10 ++ [(⟨i_17, n_3⟩ : Msg)])) else none)
  else
   (if (i_14 == 20) = true then
    (if o_11.length + [(⟨1, i_15, (⟨i_17, n_3⟩ : Msg)⟩ : Effc)].length ≤ maxRow then (kp2 0 (o_11 ++ [(⟨1, i_15, (⟨i_17, n_3⟩ : Msg)⟩ : Effc)])) else none)
   else
    (if (i_14 == 21) = true then
     ((ifB (decide (n_3 < 1)) false (some (decide (n_3 > 65536))) (some true)).bind fun c20 =>
     if c20 = true then
      (kp0 1 o_9)
     else
      (if o_11.length + ([(⟨2, i_15, (⟨[], n_3⟩ : Msg)⟩ : Effc)]).length ≤ maxRow then (kp2 0 (o_11 ++ ([(⟨2, i_15, (⟨[], n_3⟩ : Msg)⟩ : Effc)]))) else none))
    else
     (if (i_14 == 22) = true then
      (if o_11.length + ([(⟨3, i_15, (⟨[], 0⟩ : Msg)⟩ : Effc)]).length ≤ maxRow then (kp2 0 (o_11 ++ ([(⟨3, i_15, (⟨[], 0⟩ : Msg)⟩ : Effc)]))) else none)
     else
      (kp0 0 o_9)))))
noncomputable def r17_running_act_4 {R : Type} (N : Nat) (Op A N_ : Int) (S : List UInt8) (Value Cost Code arg at_ : Int) (Vars : List Int) (Raised : List Msg) (Effects : List Effc) (row rounds : List Int) (k0 : Int → (List Int) → (List Int) → Option R) (k1 : Int → (List Msg) → (List Int) → Option R) (k2 : Int → (List Effc) → (List Int) → Option R) : Option R :=
 if (Op != 22) = true then
  (r17_running_take_4 N Value Cost Code arg at_ Vars Raised Effects row rounds (fun r1 r2 =>
  r17_running_act_4_c4 N r1 Value Cost Code arg at_ Vars Raised Effects rounds r2 Op A N_ S (fun y21 y22 =>
  k0 y21 y22 r2)
   (fun y23 y24 =>
  k1 y23 y24 r2)
   (fun y25 y26 =>
  k2 y25 y26 r2)))
 else
  (r17_running_act_4_c4 N 0 Value Cost Code arg at_ Vars Raised Effects rounds row Op A N_ S (fun y27 y28 =>
  k0 y27 y28 row)
   (fun y29 y30 =>
  k1 y29 y30 row)
   (fun y31 y32 =>
  k2 y31 y32 row))
noncomputable def r17_running_act_4_D (N : Nat) : FD E0 := { f := 27, fn := Tryz.f27, q := ⟨[.p 0 0 0, y3], [z22, .rw .i64 .own, .rw .msg .app, .rw .effc .app, .rw .i64 .own, .rw .i64 .own]⟩, cuts := [{ key := 4, live := [0, 3, 5], fix := [(⟨0, [8]⟩, .fresh .i64 .own)], out := fun | .ret => ([4], []) | _ => ([], []), q := ⟨[.p 0 0 0, .p 7 0 0, .i .i64], [z24, .rw .i64 .own, .rw .msg .app, .rw .effc .app, .g, .rw .i64 .own, .rw .i64 .own, z4]⟩, G := fun R K a b c d e g h i j l m o p q s => r17_running_act_4_c4 N a b c d e g h i j l m o p q s (fun t u => pK ⟨[.i .i64], [z24, .rw .i64 .own, .rw .msg .app, .rw .effc .app, .g, .rw .i64 .own, .rw .i64 .own]⟩ (K .ret) t b c d e g u i j l m) (fun t u => pK ⟨[.i .i64], [z25, .rw .i64 .own, .rw .msg .ro, .rw .effc .app, .g, .rw .i64 .own, .rw .msg .app, .rw .i64 .own]⟩ (K .ret) t b c d e g h i j l u m) (fun t u => pK ⟨[.i .i64], [z26, .rw .i64 .own, .rw .msg .app, .rw .effc .ro, .g, .rw .i64 .own, .rw .effc .app, .rw .i64 .own]⟩ (K .ret) t b c d e g h i j l u m) }], g := [r17_running_take_4_S N] }
noncomputable def r17_running_act_4_S (N : Nat) : OC E0 := ⟨_, FD.ct e0 (r17_running_act_4_D N) N (fun R k a b c d e g h i j l m o p q => r17_running_act_4 N a b c d e g h i j l m o p q (fun s t => oK ⟨.i .i64, [z24, .rw .i64 .own, .rw .msg .app, .rw .effc .app, .g, .rw .i64 .own], [.rw .i64 .own]⟩ k s e g h i j t m o q) (fun s => oK ⟨.i .i64, [z25, .rw .i64 .own, .rw .msg .ro, .rw .effc .app, .g, .rw .i64 .own], [.rw .msg .app, .rw .i64 .own]⟩ k s e g h i j l m o q) (fun s => oK ⟨.i .i64, [z26, .rw .i64 .own, .rw .msg .app, .rw .effc .ro, .g, .rw .i64 .own], [.rw .effc .app, .rw .i64 .own]⟩ k s e g h i j l m o q))⟩
def z27 : ShO S := .bx [.i .i64, .sw 1, .sw 2, .sw 3, .i .i64, .i .i64, .ns, .i .i64, .sw 4, .sw 6, .i .i64]
def z28 : ShO S := .bx [.i .i64, .sw 1, .sw 2, .sw 3, .i .i64, .i .i64, .ns, .i .i64, .sw 6, .sw 7, .i .i64]
noncomputable def r17_running_move_3 {R : Type} (N : Nat) (Op A N_ : Int) (S : List UInt8) (Value Cost Code arg at_ : Int) (Vars : List Int) (Raised : List Msg) (Effects : List Effc) (row rounds : List Int) (k0 k1 : Int → (List Int) → Option R) (k2 : (List Int) → Option R) : Option R :=
 if (Op == 23) = true then
  (k0 A rounds)
 else
  (if (Op == 24) = true then
   (r17_running_take_4 N Value Cost Code arg at_ Vars Raised Effects row rounds (fun r1 r2 =>
   if (r1 == 0) = true then
    (k1 A r2)
   else
    (k1 at_ r2)))
  else
   (if (Op == 25) = true then
    (if ([] : List Int).length + rounds.length ≤ maxRow then (if (([] : List Int) ++ rounds).length + [N_].length ≤ maxRow then (k2 ((([] : List Int) ++ rounds) ++ [N_])) else none) else none)
   else
    (if (Op == 26) = true then
     (if (((rounds.length : Nat) : Int) == 0) = true then
      (k0 at_ rounds)
     else
      (if (0 : Int) ≤ IntKind.wrap .i64 (((rounds.length : Nat) : Int) - 1) ∧ IntKind.wrap .i64 (((rounds.length : Nat) : Int) - 1) < (rounds.length : Int) then (match rounds[(IntKind.wrap .i64 (((rounds.length : Nat) : Int) - 1)).toNat]? with
      | some e3 => (if (0 : Int) ≤ IntKind.wrap .i64 (((rounds.length : Nat) : Int) - 1) ∧ IntKind.wrap .i64 (((rounds.length : Nat) : Int) - 1) < (rounds.length : Int) then (match rounds[(IntKind.wrap .i64 (((rounds.length : Nat) : Int) - 1)).toNat]? with
        | some e4 => (if (0 : Int) ≤ IntKind.wrap .i64 (((rounds.length : Nat) : Int) - 1) ∧ IntKind.wrap .i64 (((rounds.length : Nat) : Int) - 1) < ((rounds.set ((IntKind.wrap .i64 (((rounds.length : Nat) : Int) - 1)).toNat) (IntKind.wrap .i64 (e3 - 1))).length : Int) then (match (rounds.set ((IntKind.wrap .i64 (((rounds.length : Nat) : Int) - 1)).toNat) (IntKind.wrap .i64 (e3 - 1)))[(IntKind.wrap .i64 (((rounds.length : Nat) : Int) - 1)).toNat]? with
      | some e5 => (if (decide (e5 > 0)) = true then
      (k0 (IntKind.wrap .i64 (A + 1)) (rounds.set ((IntKind.wrap .i64 (((rounds.length : Nat) : Int) - 1)).toNat) (IntKind.wrap .i64 (e3 - 1))))
     else
      (if (0 : Int) ≤ 0 ∧ 0 ≤ IntKind.wrap .i64 (((rounds.length : Nat) : Int) - 1) ∧ IntKind.wrap .i64 (((rounds.length : Nat) : Int) - 1) ≤ (((rounds.set ((IntKind.wrap .i64 (((rounds.length : Nat) : Int) - 1)).toNat) (IntKind.wrap .i64 (e3 - 1))).length : Nat) : Int) then (k0 at_ ((rounds.set ((IntKind.wrap .i64 (((rounds.length : Nat) : Int) - 1)).toNat) (IntKind.wrap .i64 (e3 - 1))).take ((IntKind.wrap .i64 (((rounds.length : Nat) : Int) - 1)).toNat - (Int.toNat 0)))) else none))
      | none => none) else none)
        | none => none) else none)
      | none => none) else none))
    else
     (k0 at_ rounds))))
noncomputable def r17_running_move_3_D (N : Nat) : FD E0 := { f := 28, fn := Tryz.f28, q := ⟨[.p 0 0 0, y3], [z22, .rw .i64 .own, .rw .msg .app, .rw .effc .app, .rw .i64 .own, .rw .i64 .own]⟩, g := [r17_running_take_4_S N], mode := fun | 27 => .own | 32 => .own | 35 => .own | 36 => .own | _ => .app, exit := [(⟨0, [9]⟩, .fresh .i64 .own)] }
noncomputable def r17_running_move_3_S (N : Nat) : OC E0 := ⟨_, FD.ct e0 (r17_running_move_3_D N) N (fun R k a b c d e g h i j l m o p q => r17_running_move_3 N a b c d e g h i j l m o p q (fun s => oK ⟨.tp [], [z27, .rw .i64 .own, .rw .msg .app, .rw .effc .app, .rw .i64 .own, .g], [.rw .i64 .own]⟩ k e g h i s l m o p) (fun s t => oK ⟨.tp [], [z28, .rw .i64 .own, .rw .msg .app, .rw .effc .app, .g, .g], [.rw .i64 .own, .rw .i64 .own]⟩ k e g h i s l m o t q) (oK ⟨.tp [], [z27, .rw .i64 .own, .rw .msg .app, .rw .effc .app, .rw .i64 .own, .rw .i64 .own], [.rw .i64 .own]⟩ k e g h i j l m o p q))⟩
def z29 : ShO S := .bx [.i .i64, .sw 1, .sw 2, .sw 3, .i .i64, .i .i64]
def z30 : ShO S := .bx [.i .i64, .ns, .ns, .ns, .i .i64, .i .i64]
def z31 : ShO S := .bx [.i .i64, .sw 2, .sw 3, .sw 4, .i .i64, .i .i64, .ns, .i .i64, .sw 5, .sw 6, .i .i64]
def y5 : Sh S := .ag [.i .i64, .t .i64, .t .msg, .t .effc, .i .i64, .i .i64]
noncomputable def r17_Run_c15 {R : Type} (N : Nat) (c_20 : List Ins) (fuel_21 e_22 v_23 v_24 v_25 r_26 r_27 r_28 r_29 r_30 : Int) (o_31 : List Int) (o_32 : List Msg) (o_33 : List Effc) (o_34 o_35 : List Int) (kp0 kp1 : Option R) : Option R :=
 if (e_22 != 0) = true then
  (kp0 )
 else
  (kp1 )
noncomputable def r17_Run_l0_b {R : Type} (N : Nat) (c_1 : List Ins) (fuel_2 v_3 v_4 v_5 r_6 r_8 r_9 : Int) (kp0 : Int → Int → (List Int) → (List Msg) → (List Effc) → (List Int) → (List Int) → Option R) (kp1 : Int → Int → (List Int) → (List Msg) → (List Effc) → Option R) (rec : Int → Int → (List Int) → (List Msg) → (List Effc) → (List Int) → (List Int) → Option R) (r_7 r_10 : Int) (o_11 : List Int) (o_12 : List Msg) (o_13 : List Effc) (o_14 o_15 : List Int) : Option R :=
 (ifB (decide (r_10 ≥ 0)) true (some (decide (r_10 < ((c_1.length : Nat) : Int)))) (some false)).bind fun c16 =>
 if c16 = true then
  (if (decide (r_7 ≥ (if (1048576 < fuel_2) then 1048576 else fuel_2))) = true then
  (kp1 r_7 4 o_11 o_12 o_13)
 else
  ((at? c_1 r_10).bind fun e17 =>
 if (decide (e17.Op < 18)) = true then
  (r17_running_reckon_4 N e17.Op e17.A e17.N e17.S r_6 (IntKind.wrap .i64 (r_7 + 1)) r_8 r_9 (IntKind.wrap .i64 (r_10 + 1)) o_11 o_12 o_13 o_14 o_15 (fun r18 r19 =>
  r17_Run_c15 N c_1 fuel_2 r18 v_3 v_4 v_5 r_6 (IntKind.wrap .i64 (r_7 + 1)) r_8 r_9 (IntKind.wrap .i64 (r_10 + 1)) o_11 o_12 o_13 r19 o_15 (kp1 (IntKind.wrap .i64 (r_7 + 1)) r18 o_11 o_12 o_13)
   (rec (IntKind.wrap .i64 (r_7 + 1)) (IntKind.wrap .i64 (r_10 + 1)) o_11 o_12 o_13 r19 o_15)) (fun r36 r37 =>
  r17_Run_c15 N c_1 fuel_2 r36 v_3 v_4 v_5 r_6 (IntKind.wrap .i64 (r_7 + 1)) r_8 r_9 (IntKind.wrap .i64 (r_10 + 1)) o_11 o_12 o_13 r37 o_15 (kp1 (IntKind.wrap .i64 (r_7 + 1)) r36 o_11 o_12 o_13)
   (rec (IntKind.wrap .i64 (r_7 + 1)) (IntKind.wrap .i64 (r_10 + 1)) o_11 o_12 o_13 r37 o_15)))
 else
  (if (decide (e17.Op ≤ 22)) = true then
   (r17_running_act_4 N e17.Op e17.A e17.N e17.S r_6 (IntKind.wrap .i64 (r_7 + 1)) r_8 r_9 (IntKind.wrap .i64 (r_10 + 1)) o_11 o_12 o_13 o_14 o_15 (fun r38 r39 r40 =>
   r17_Run_c15 N c_1 fuel_2 r38 v_3 v_4 v_5 r_6 (IntKind.wrap .i64 (r_7 + 1)) r_8 r_9 (IntKind.wrap .i64 (r_10 + 1)) r39 o_12 o_13 r40 o_15 (kp1 (IntKind.wrap .i64 (r_7 + 1)) r38 r39 o_12 o_13)
    (rec (IntKind.wrap .i64 (r_7 + 1)) (IntKind.wrap .i64 (r_10 + 1)) r39 o_12 o_13 r40 o_15)) (fun r41 r42 r43 =>
   r17_Run_c15 N c_1 fuel_2 r41 v_3 v_4 v_5 r_6 (IntKind.wrap .i64 (r_7 + 1)) r_8 r_9 (IntKind.wrap .i64 (r_10 + 1)) o_11 r42 o_13 r43 o_15 (kp1 (IntKind.wrap .i64 (r_7 + 1)) r41 o_11 r42 o_13)
    (rec (IntKind.wrap .i64 (r_7 + 1)) (IntKind.wrap .i64 (r_10 + 1)) o_11 r42 o_13 r43 o_15)) (fun r44 r45 r46 =>
   r17_Run_c15 N c_1 fuel_2 r44 v_3 v_4 v_5 r_6 (IntKind.wrap .i64 (r_7 + 1)) r_8 r_9 (IntKind.wrap .i64 (r_10 + 1)) o_11 o_12 r45 r46 o_15 (kp1 (IntKind.wrap .i64 (r_7 + 1)) r44 o_11 o_12 r45)
    (rec (IntKind.wrap .i64 (r_7 + 1)) (IntKind.wrap .i64 (r_10 + 1)) o_11 o_12 r45 r46 o_15)))
  else
   (r17_running_move_3 N e17.Op e17.A e17.N e17.S r_6 (IntKind.wrap .i64 (r_7 + 1)) r_8 r_9 (IntKind.wrap .i64 (r_10 + 1)) o_11 o_12 o_13 o_14 o_15 (fun r47 r48 =>
   r17_Run_c15 N c_1 fuel_2 0 v_3 v_4 v_5 r_6 (IntKind.wrap .i64 (r_7 + 1)) r_8 r_9 r47 o_11 o_12 o_13 o_14 r48 (kp1 (IntKind.wrap .i64 (r_7 + 1)) 0 o_11 o_12 o_13)
    (rec (IntKind.wrap .i64 (r_7 + 1)) r47 o_11 o_12 o_13 o_14 r48)) (fun r49 r50 =>
   r17_Run_c15 N c_1 fuel_2 0 v_3 v_4 v_5 r_6 (IntKind.wrap .i64 (r_7 + 1)) r_8 r_9 r49 o_11 o_12 o_13 r50 o_15 (kp1 (IntKind.wrap .i64 (r_7 + 1)) 0 o_11 o_12 o_13)
    (rec (IntKind.wrap .i64 (r_7 + 1)) r49 o_11 o_12 o_13 r50 o_15)) (fun r51 =>
   r17_Run_c15 N c_1 fuel_2 0 v_3 v_4 v_5 r_6 (IntKind.wrap .i64 (r_7 + 1)) r_8 r_9 (IntKind.wrap .i64 (r_10 + 1)) o_11 o_12 o_13 o_14 r51 (kp1 (IntKind.wrap .i64 (r_7 + 1)) 0 o_11 o_12 o_13)
    (rec (IntKind.wrap .i64 (r_7 + 1)) (IntKind.wrap .i64 (r_10 + 1)) o_11 o_12 o_13 o_14 r51))))))
 else
  (kp0 r_7 r_10 o_11 o_12 o_13 o_14 o_15)
noncomputable def r17_Run_l0 {R : Type} (N : Nat) (c_1 : List Ins) (fuel_2 v_3 v_4 v_5 r_6 r_8 r_9 : Int) (kp0 : Int → Int → (List Int) → (List Msg) → (List Effc) → (List Int) → (List Int) → Option R) (kp1 : Int → Int → (List Int) → (List Msg) → (List Effc) → Option R) : Nat → Int → Int → (List Int) → (List Msg) → (List Effc) → (List Int) → (List Int) → Option R
 | 0 => fun _ _ _ _ _ _ _ => none
 | n + 1 => fun r_7 r_10 o_11 o_12 o_13 o_14 o_15 => r17_Run_l0_b N c_1 fuel_2 v_3 v_4 v_5 r_6 r_8 r_9 kp0 kp1 (r17_Run_l0 N c_1 fuel_2 v_3 v_4 v_5 r_6 r_8 r_9 kp0 kp1 n) r_7 r_10 o_11 o_12 o_13 o_14 o_15
noncomputable def r17_Run_c20 {R : Type} (N : Nat) (v_65 v_66 v_67 r_68 r_69 r_70 r_71 r_72 : Int) (o_73 : List Int) (o_74 : List Msg) (o_75 : List Effc) (o_76 o_77 : List Int) (kp0 : Option R) : Option R :=
 kp0 
noncomputable def r17_Run {R : Type} (N : Nat) (c : List Ins) (Vars : List Int) (arg fuel : Int) (k0 : Int → (List Int) → (List Msg) → (List Effc) → Int → Int → Option R) : Option R :=
 if ([] : List Int).length + Vars.length ≤ maxRow then (r17_Run_l0 N c fuel 0 0 0 0 0 arg (fun y52 y53 y54 y55 y56 y57 y58 =>
 if (decide (((y57.length : Nat) : Int) > 0)) = true then
  (if (0 : Int) ≤ IntKind.wrap .i64 (((y57.length : Nat) : Int) - 1) ∧ IntKind.wrap .i64 (((y57.length : Nat) : Int) - 1) < (y57.length : Int) then (match y57[(IntKind.wrap .i64 (((y57.length : Nat) : Int) - 1)).toNat]? with
   | some e64 => (r17_Run_c20 N 0 0 0 e64 y52 0 arg y53 y54 y55 y56 y57 y58 (k0 e64 y54 y55 y56 y52 0))
   | none => none) else none)
 else
  (r17_Run_c20 N 0 0 0 0 y52 0 arg y53 y54 y55 y56 y57 y58 (k0 0 y54 y55 y56 y52 0)))
  (fun y59 y60 y61 y62 y63 =>
 k0 0 y61 y62 y63 y59 y60) N 0 0 (([] : List Int) ++ Vars) ([] : List Msg) ([] : List Effc) ([] : List Int) ([] : List Int)) else none
noncomputable def r17_Run_D (N : Nat) : FD E0 := { f := 9, fn := Tryz.f9, q := ⟨[.t .ins, .ag [.ns, .t .i64, .ns], .i .i64, .i .i64], []⟩, loops := [{ cur := 0, live := [0, 3, 8, 9], fix := [(⟨9, [8]⟩, .row .i64 .own), (⟨9, [2]⟩, .row .msg .app), (⟨9, [3]⟩, .row .effc .app), (⟨9, [9]⟩, .row .i64 .own)], out := fun | .exit 0 => ([8, 9], []) | .ret => ([8], []) | _ => ([], []), q := ⟨[.t .ins, .i .i64, .p 0 0 0, .p 1 0 0], [z30, z31, .rw .i64 .own, .rw .msg .app, .rw .effc .app, .rw .i64 .own, .rw .i64 .own]⟩, G := fun R K n a b c d e g h i j l m o p q s => r17_Run_l0 N a b c d e g i j (fun t => pK ⟨[.p 0 0 0, .p 1 0 0], [z30, z31, .rw .i64 .own, .rw .msg .app, .rw .effc .app, .rw .i64 .own, .rw .i64 .own]⟩ (K (.exit 0)) c d e g t i j) (pK ⟨[.p 0 0 0], [z29, .rw .i64 .own, .rw .msg .app, .rw .effc .app]⟩ (K .ret) g) n h l m o p q s, B := fun R K rec a b c d e g h i j l m o p q s => r17_Run_l0_b N a b c d e g i j (fun t => pK ⟨[.p 0 0 0, .p 1 0 0], [z30, z31, .rw .i64 .own, .rw .msg .app, .rw .effc .app, .rw .i64 .own, .rw .i64 .own]⟩ (K (.exit 0)) c d e g t i j) (pK ⟨[.p 0 0 0], [z29, .rw .i64 .own, .rw .msg .app, .rw .effc .app]⟩ (K .ret) g) (fun h l m o p q s => rec a b c d e g h i j l m o p q s) h l m o p q s }], cuts := [{ key := 15, live := [0, 3, 8, 9, 11], fix := [(⟨9, [2]⟩, .row .msg .app), (⟨9, [3]⟩, .row .effc .app), (⟨9, [9]⟩, .row .i64 .own)], out := fun | .ret => ([8], []) | .normal => ([0, 3, 8, 9], []) | _ => ([], []), q := ⟨[.t .ins, .i .i64, .p 0 0 0, .p 1 0 0, .i .i64], [z30, z31, .rw .i64 .own, .rw .msg .app, .rw .effc .app, .rw .i64 .own, .rw .i64 .own]⟩, G := fun R K a b c d e g h i j l m o p q s t => r17_Run_c15 N a b c d e g h i j l m o p q s t (pK ⟨[.p 0 0 0], [z29, .rw .i64 .own, .rw .msg .app, .rw .effc .app]⟩ (K .ret) h i c o p q) (pK ⟨[.t .ins, .i .i64, .p 0 0 0, .p 1 0 0], [z30, z31, .rw .i64 .own, .rw .msg .app, .rw .effc .app, .rw .i64 .own, .rw .i64 .own]⟩ (K .normal) a b d e g h i j l m o p q s t) }, { key := 20, live := [8, 9], out := fun | .ret => ([8], []) | _ => ([], []), q := ⟨[.p 0 0 0, .p 1 0 0], [z30, z31, .rw .i64 .own, .rw .msg .app, .rw .effc .app, .rw .i64 .own, .rw .i64 .own]⟩, G := fun R K a b c d e g h i j l m o p => r17_Run_c20 N a b c d e g h i j l m o p (pK ⟨[.p 0 0 0], [z29, .rw .i64 .own, .rw .msg .app, .rw .effc .app]⟩ (K .ret) d e g j l m) }], g := [r17_running_reckon_4_S N, r17_running_act_4_S N, r17_running_move_3_S N], mode := fun | 12 => .own | 15 => .own | _ => .app, exit := [(⟨8, [1]⟩, .tree .i64), (⟨8, [2]⟩, .tree .msg), (⟨8, [3]⟩, .tree .effc)] }
noncomputable def r17_Run_S (N : Nat) : OC E0 := ⟨_, FD.ct e0 (r17_Run_D N) N (fun R k a b c d => r17_Run N a b c d (oK ⟨y5, [], []⟩ k))⟩
end Ef
