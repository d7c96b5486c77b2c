/- E1_1: a part of the proof of EffectHolds: lemmas on the evaluator and on the functions that the law reaches. -/
import Derived.Test.YtfpfmibcnldepaaGreatEK
set_option maxRecDepth 100000
set_option linter.unusedVariables false
namespace Ef
open Go TE Go.Proofs
noncomputable def l30_marks_l0_b {R : Type} (N : Nat) (l_5 : List Mark) (kp0 : (List Mark) → Option R) (rec : Int → (List Mark) → Option R) (i_6 : Int) (out_7 : List Mark) : Option R :=
  if (decide (i_6 < ((l_5.length : Nat) : Int))) = true then
    ((at? l_5 i_6).bind fun e8 =>
  (at? l_5 i_6).bind fun e9 =>
  if out_7.length + [(⟨e8.Port, e9.Event⟩ : Mark)].length ≤ maxRow then (rec (IntKind.wrap .i64 (i_6 + 1)) (out_7 ++ [(⟨e8.Port, e9.Event⟩ : Mark)])) else none)
  else
    (kp0 out_7)
noncomputable def l30_marks_l0 {R : Type} (N : Nat) (l_5 : List Mark) (kp0 : (List Mark) → Option R) : Nat → Int → (List Mark) → Option R
  | 0 => fun _ _ => none
  | n + 1 => fun i_6 out_7 => l30_marks_l0_b N l_5 kp0 (l30_marks_l0 N l_5 kp0 n) i_6 out_7
noncomputable def l30_marks {R : Type} (N : Nat) (l : List Mark) (k0 : (List Mark) → Option R) : Option R :=
  l30_marks_l0 N l (fun (y10 : List Mark) =>
  k0 y10) N 0 ([] : List Mark)
noncomputable def l30_marks_D (N : Nat) : FD E0 := { f := 31, fn := Tryz.f31, q := ⟨[.t .mark], []⟩, loops := [{ cur := 0, live := [0, 3, 4], fix := [(⟨3, []⟩, .row .rmark .app)], out := fun | .exit 0 => ([3], []) | _ => ([], []), q := ⟨[.t .mark, .sw 0, .i .i64], [.rw .rmark .app]⟩, G := fun R K n a b c => l30_marks_l0 N a (pK ⟨[.sw 0], [.rw .rmark .app]⟩ (K (.exit 0))) n b c, B := fun R K rec a b c => l30_marks_l0_b N a (pK ⟨[.sw 0], [.rw .rmark .app]⟩ (K (.exit 0))) (rec a) b c }], exit := [(⟨2, []⟩, .tree .rmark)] }
noncomputable def l30_marks_S (N : Nat) : OC E0 := ⟨_, FD.ct e0 (l30_marks_D N) N (fun R k a => l30_marks N a (oK ⟨.t .rmark, [], []⟩ k))⟩

noncomputable def r30_Less_l0_b {R : Type} (N : Nat) (a_1 b_2 : List Mark) (kp0 : Option R) (kp1 : Bool → Option R) (rec : Int → Option R) (i_3 : Int) : Option R :=
  (ifB (decide (i_3 < ((a_1.length : Nat) : Int))) true (some (decide (i_3 < ((b_2.length : Nat) : Int)))) (some false)).bind fun c4 =>
  if c4 = true then
    ((at? a_1 i_3).bind fun e5 =>
  (at? b_2 i_3).bind fun e6 =>
  if (!((e5.Port == e6.Port) && ((e5.Event == e6.Event) && true))) = true then
    ((at? a_1 i_3).bind fun e7 =>
    (at? b_2 i_3).bind fun e8 =>
    (ifB (decide (e7.Port < e8.Port)) false ((at? a_1 i_3).bind fun e9 =>
    (at? b_2 i_3).bind fun e10 =>
    (ifB (e9.Port == e10.Port) true ((at? a_1 i_3).bind fun e11 =>
    (at? b_2 i_3).bind fun e12 =>
    some (bytesLess e11.Event e12.Event)) (some false)).bind fun c13 =>
    some c13) (some true)).bind fun c14 =>
    kp1 c14)
  else
    (rec (IntKind.wrap .i64 (i_3 + 1))))
  else
    (kp0 )
noncomputable def r30_Less_l0 {R : Type} (N : Nat) (a_1 b_2 : List Mark) (kp0 : Option R) (kp1 : Bool → Option R) : Nat → Int → Option R
  | 0 => fun _ => none
  | n + 1 => fun i_3 => r30_Less_l0_b N a_1 b_2 kp0 kp1 (r30_Less_l0 N a_1 b_2 kp0 kp1 n) i_3
noncomputable def r30_Less {R : Type} (N : Nat) (a b : List Mark) (k0 : Bool → Option R) : Option R :=
  r30_Less_l0 N a b (k0 (decide (((a.length : Nat) : Int) < ((b.length : Nat) : Int))))
    (fun (y15 : Bool) =>
  k0 y15) N 0
noncomputable def r30_Less_D (N : Nat) : FD E0 := { f := 53, fn := Tryz.f53, q := ⟨[.t .rmark, .t .rmark], []⟩, loops := [{ cur := 0, live := [0, 1, 5], out := fun | .exit 0 => ([0, 1], []) | .ret => ([4], []) | _ => ([], []), q := ⟨[.t .rmark, .t .rmark, .i .i64], []⟩, G := fun R K n a b c => r30_Less_l0 N a b (pK ⟨[.t .rmark, .t .rmark], []⟩ (K (.exit 0)) a b) (pK ⟨[.b], []⟩ (K .ret)) n c, B := fun R K rec a b c => r30_Less_l0_b N a b (pK ⟨[.t .rmark, .t .rmark], []⟩ (K (.exit 0)) a b) (pK ⟨[.b], []⟩ (K .ret)) (rec a b) c }] }
noncomputable def r30_Less_S (N : Nat) : OC E0 := ⟨_, FD.ct e0 (r30_Less_D N) N (fun R k a b => r30_Less N a b (oK ⟨.b, [], []⟩ k))⟩

noncomputable def cmp_isNaN_int {R : Type} (N : Nat) (x : Int) (k0 : Bool → Option R) : Option R :=
  k0 (x != x)
noncomputable def cmp_isNaN_int_D (N : Nat) : FD E0 := { f := 73, fn := Tryz.f73, q := ⟨[.i .i64], []⟩ }
noncomputable def cmp_isNaN_int_S (N : Nat) : OC E0 := ⟨_, FD.ct e0 (cmp_isNaN_int_D N) N (fun R k a => cmp_isNaN_int N a (oK ⟨.b, [], []⟩ k))⟩

noncomputable def cmp_Compare_int {R : Type} (N : Nat) (x y : Int) (k0 : Int → Option R) : Option R :=
  if (x != x) = true then
    (if (y != y) = true then
      (k0 0)
    else
      (k0 (-1)))
  else
    (if (y != y) = true then
    (k0 1)
  else
    (if (decide (x < y)) = true then
    (k0 (-1))
  else
    (if (decide (x > y)) = true then
    (k0 1)
  else
    (k0 0))))
noncomputable def cmp_Compare_int_D (N : Nat) : FD E0 := { f := 44, fn := Tryz.f44, q := ⟨[.i .i64, .i .i64], []⟩, g := [cmp_isNaN_int_S N] }
noncomputable def cmp_Compare_int_S (N : Nat) : OC E0 := ⟨_, FD.ct e0 (cmp_Compare_int_D N) N (fun R k a b => cmp_Compare_int N a b (oK ⟨.i .i64, [], []⟩ k))⟩

noncomputable def cmp_isNaN_string {R : Type} (N : Nat) (x : List UInt8) (k0 : Bool → Option R) : Option R :=
  k0 (!(x == x))
noncomputable def cmp_isNaN_string_D (N : Nat) : FD E0 := { f := 74, fn := Tryz.f74, q := ⟨[.st], []⟩ }
noncomputable def cmp_isNaN_string_S (N : Nat) : OC E0 := ⟨_, FD.ct e0 (cmp_isNaN_string_D N) N (fun R k a => cmp_isNaN_string N a (oK ⟨.b, [], []⟩ k))⟩

noncomputable def cmp_Compare_string {R : Type} (N : Nat) (x y : List UInt8) (k0 : Int → Option R) : Option R :=
  if (!(x == x)) = true then
    (if (!(y == y)) = true then
      (k0 0)
    else
      (k0 (-1)))
  else
    (if (!(y == y)) = true then
    (k0 1)
  else
    (if (bytesLess x y) = true then
    (k0 (-1))
  else
    (if (!(bytesLess x y || x == y)) = true then
    (k0 1)
  else
    (k0 0))))
noncomputable def cmp_Compare_string_D (N : Nat) : FD E0 := { f := 45, fn := Tryz.f45, q := ⟨[.st, .st], []⟩, g := [cmp_isNaN_string_S N] }
noncomputable def cmp_Compare_string_S (N : Nat) : OC E0 := ⟨_, FD.ct e0 (cmp_Compare_string_D N) N (fun R k a b => cmp_Compare_string N a b (oK ⟨.i .i64, [], []⟩ k))⟩

noncomputable def cmp_Or_int_l0_b {R : Type} (N : Nat) (zero_1 : Int) (v_2 : List Int) (v_3 : Int) (kp0 : Option R) (kp1 : Int → Option R) (rec : Int → Option R) (v_4 : Int) : Option R :=
  if (decide (v_4 < v_3)) = true then
    ((at? v_2 v_4).bind fun e5 =>
  if (e5 != zero_1) = true then
    (kp1 e5)
  else
    (rec (IntKind.wrap .i64 (v_4 + 1))))
  else
    (kp0 )
noncomputable def cmp_Or_int_l0 {R : Type} (N : Nat) (zero_1 : Int) (v_2 : List Int) (v_3 : Int) (kp0 : Option R) (kp1 : Int → Option R) : Nat → Int → Option R
  | 0 => fun _ => none
  | n + 1 => fun v_4 => cmp_Or_int_l0_b N zero_1 v_2 v_3 kp0 kp1 (cmp_Or_int_l0 N zero_1 v_2 v_3 kp0 kp1 n) v_4
noncomputable def cmp_Or_int {R : Type} (N : Nat) (vals : List Int) (k0 : Int → Option R) : Option R :=
  cmp_Or_int_l0 N 0 vals ((vals.length : Nat) : Int) (k0 0)
    (fun (y6 : Int) =>
  k0 y6) N 0
noncomputable def cmp_Or_int_D (N : Nat) : FD E0 := { f := 43, fn := Tryz.f43, q := ⟨[.t .int], []⟩, loops := [{ cur := 0, live := [3, 6, 7, 8], out := fun | .exit 0 => ([3], []) | .ret => ([2], []) | _ => ([], []), q := ⟨[.i .i64, .t .int, .i .i64, .i .i64], []⟩, G := fun R K n a b c d => cmp_Or_int_l0 N a b c (pK ⟨[.i .i64], []⟩ (K (.exit 0)) a) (pK ⟨[.i .i64], []⟩ (K .ret)) n d, B := fun R K rec a b c d => cmp_Or_int_l0_b N a b c (pK ⟨[.i .i64], []⟩ (K (.exit 0)) a) (pK ⟨[.i .i64], []⟩ (K .ret)) (rec a b c) d }] }
noncomputable def cmp_Or_int_S (N : Nat) : OC E0 := ⟨_, FD.ct e0 (cmp_Or_int_D N) N (fun R k a => cmp_Or_int N a (oK ⟨.i .i64, [], []⟩ k))⟩

noncomputable def effect_order_1 {R : Type} (N : Nat) (Port : Int) (Event : List UInt8) (Port_2 : Int) (Event_2 : List UInt8) (k0 : Int → Option R) : Option R :=
  cmp_Compare_int N Port Port_2 (fun (r1 : Int) =>
  cmp_Compare_string N Event Event_2 (fun (r2 : Int) =>
  cmp_Or_int N [r1, r2] (fun (r3 : Int) =>
  k0 r3)))
noncomputable def effect_order_1_D (N : Nat) : FD E0 := { f := 42, fn := Tryz.f42, q := ⟨[.ag [.i .i64, .st], .ag [.i .i64, .st]], []⟩, g := [cmp_Or_int_S N, cmp_Compare_int_S N, cmp_Compare_string_S N] }
noncomputable def effect_order_1_S (N : Nat) : OC E0 := ⟨_, FD.ct e0 (effect_order_1_D N) N (fun R k a b c d => effect_order_1 N a b c d (oK ⟨.i .i64, [], []⟩ k))⟩

noncomputable def f41_l0_b {R : Type} (N : Nat) (s1_1 s2_2 v_3 : List Mark) (v_4 : Int) (kp0 : Option R) (kp1 : Int → Option R) (rec : Int → Option R) (v_5 : Int) : Option R :=
  if (decide (v_5 < v_4)) = true then
    ((at? v_3 v_5).bind fun e6 =>
  if (decide (v_5 ≥ ((s2_2.length : Nat) : Int))) = true then
    (kp1 1)
  else
    ((at? s2_2 v_5).bind fun e7 =>
  effect_order_1 N e6.Port e6.Event e7.Port e7.Event (fun (r8 : Int) =>
  if (r8 != 0) = true then
    (kp1 r8)
  else
    (rec (IntKind.wrap .i64 (v_5 + 1))))))
  else
    (kp0 )
noncomputable def f41_l0 {R : Type} (N : Nat) (s1_1 s2_2 v_3 : List Mark) (v_4 : Int) (kp0 : Option R) (kp1 : Int → Option R) : Nat → Int → Option R
  | 0 => fun _ => none
  | n + 1 => fun v_5 => f41_l0_b N s1_1 s2_2 v_3 v_4 kp0 kp1 (f41_l0 N s1_1 s2_2 v_3 v_4 kp0 kp1 n) v_5
noncomputable def f41 {R : Type} (N : Nat) (s1 s2 : List Mark) (k0 : Int → Option R) : Option R :=
  f41_l0 N s1 s2 s1 ((s1.length : Nat) : Int) (if (decide (((s1.length : Nat) : Int) < ((s2.length : Nat) : Int))) = true then
    (k0 (-1))
  else
    (k0 0))
    (fun (y9 : Int) =>
  k0 y9) N 0
noncomputable def f41_D (N : Nat) : FD E0 := { f := 41, fn := Tryz.f41, q := ⟨[.t .mark, .t .mark, .fn 42 []], []⟩, loops := [{ cur := 0, live := [0, 1, 2, 11, 12, 13], out := fun | .exit 0 => ([0, 1], []) | .ret => ([6], []) | _ => ([], []), q := ⟨[.t .mark, .t .mark, .fn 42 [], .t .mark, .i .i64, .i .i64], []⟩, G := fun R K n a b c d e => f41_l0 N a b c d (pK ⟨[.t .mark, .t .mark], []⟩ (K (.exit 0)) a b) (pK ⟨[.i .i64], []⟩ (K .ret)) n e, B := fun R K rec a b c d e => f41_l0_b N a b c d (pK ⟨[.t .mark, .t .mark], []⟩ (K (.exit 0)) a b) (pK ⟨[.i .i64], []⟩ (K .ret)) (rec a b c d) e }], g := [effect_order_1_S N] }
noncomputable def f41_S (N : Nat) : OC E0 := ⟨_, FD.ct e0 (f41_D N) N (fun R k a b => f41 N a b (oK ⟨.i .i64, [], []⟩ k))⟩

noncomputable def effect_order {R : Type} (N : Nat) (a b : List Mark) (k0 : Int → Option R) : Option R :=
  f41 N a b (fun (r1 : Int) =>
  k0 r1)
noncomputable def effect_order_D (N : Nat) : FD E0 := { f := 23, fn := Tryz.f23, q := ⟨[.t .mark, .t .mark], []⟩, g := [f41_S N] }
noncomputable def effect_order_S (N : Nat) : OC E0 := ⟨_, FD.ct e0 (effect_order_D N) N (fun R k a b => effect_order N a b (oK ⟨.i .i64, [], []⟩ k))⟩

end Ef

