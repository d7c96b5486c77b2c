/- W11: a part of the proof of WheelPlays: lemmas on the evaluator and on the functions that the law reaches. -/
import Derived.Test.YtlagbbfgaanpcaaW8
set_option maxRecDepth 100000
set_option linter.unusedVariables false
namespace Wh
open Go TE Go.Proofs
noncomputable def f3_g (N : Nat) : Callf S := fun f args objs R k => match f with
  | 8 => e8 N args objs R k
  | 9 => e9 N args objs R k
  | 10 => e10 N args objs R k
  | 11 => e11 N args objs R k
  | 12 => e12 N args objs R k
  | _ => none
theorem f3_g_ok (N : Nat) : TabOK (E noCalls) (f3_g N) := by
  intro f args objs R k r h
  unfold f3_g at h
  split at h
  · exact e8_ok N _ _ _ _ _ h
  · exact e9_ok N _ _ _ _ _ h
  · exact e10_ok N _ _ _ _ _ h
  · exact e11_ok N _ _ _ _ _ h
  · exact e12_ok N _ _ _ _ _ h
  · cases h
noncomputable def f3_l0_b {R : Type} (N : Nat) (v4 : Int) (v5 : Int) (v6 : Int) (v10 : Nat) (v11 : Int) (v12 : Int) (kp0 : Bool → Option R) (kp1 : (List (List Sc × Int × Nat)) → Bool → Option R) (rec : Int → (List (List Sc × Int × Nat)) → Bool → Option R) (v7 : Int) (v8 : List (List Sc × Int × Nat)) (v9 : Bool) : Option R :=
  if (decide (v7 < v6)) = true then
    (if v8.length ≤ 1000 then (if (decide ((((tickF v8).length : Nat) : Int) > 0)) = true then
        (kp0 false)
      else
        (rec (IntKind.wrap .i64 (v7 + 1)) (tickL v8) false)) else none)
  else
    (kp1 v8 v9)
noncomputable def f3_l0 {R : Type} (N : Nat) (v4 : Int) (v5 : Int) (v6 : Int) (v10 : Nat) (v11 : Int) (v12 : Int) (kp0 : Bool → Option R) (kp1 : (List (List Sc × Int × Nat)) → Bool → Option R) : Nat → Int → (List (List Sc × Int × Nat)) → Bool → Option R
  | 0 => fun _ _ _ => none
  | n + 1 => fun v7 v8 v9 => f3_l0_b N v4 v5 v6 v10 v11 v12 kp0 kp1 (f3_l0 N v4 v5 v6 v10 v11 v12 kp0 kp1 n) v7 v8 v9
noncomputable def f3_l2_b {R : Type} (N : Nat) (v19 : Int) (v23 : Nat) (v24 : Int) (v25 : Int) (kp0 : Bool → Option R) (kp1 : (List (List Sc × Int × Nat)) → Bool → Option R) (rec : Int → (List (List Sc × Int × Nat)) → Bool → Option R) (v20 : Int) (v21 : List (List Sc × Int × Nat)) (v22 : Bool) : Option R :=
  if (decide (v20 ≤ 130)) = true then
    (if v21.length ≤ 1000 then ((ifB (!(((((tickF v21).length : Nat) : Int) == 1) == (v20 == v19))) false (some (decide ((((tickF v21).length : Nat) : Int) > 1))) (some true)).bind fun c26 =>
      (ifB c26 false ((ifB ((((tickF v21).length : Nat) : Int) == 1) true ((at? (tickF v21) 0).bind fun e27 =>
      some (!((e27.inst == v24) && ((e27.timer == v25) && true)))) (some false)).bind fun c28 =>
      some c28) (some true)).bind fun c29 =>
      if c29 = true then
        (kp0 false)
      else
        (rec (IntKind.wrap .i64 (v20 + 1)) (tickL v21) false)) else none)
  else
    (kp1 v21 v22)
noncomputable def f3_l2 {R : Type} (N : Nat) (v19 : Int) (v23 : Nat) (v24 : Int) (v25 : Int) (kp0 : Bool → Option R) (kp1 : (List (List Sc × Int × Nat)) → Bool → Option R) : Nat → Int → (List (List Sc × Int × Nat)) → Bool → Option R
  | 0 => fun _ _ _ => none
  | n + 1 => fun v20 v21 v22 => f3_l2_b N v19 v23 v24 v25 kp0 kp1 (f3_l2 N v19 v23 v24 v25 kp0 kp1 n) v20 v21 v22
noncomputable def f3_l0_o (N : Nat) : (R : Type) → List (TV S) → List (Obj S) → (Ex → List (TV S) → List (Obj S) → Option R) → Option R := fun R vals objs K => match vals, objs with
  | [.ptr 0 0 0, .ptr 2 0 0, .int .i64 v4, .int .i64 v5, .int .i64 v6, .int .i64 v7], [.box [.map 1], .mapo true [.int .i64, .int .i64] false .int v8 v9 v10, .box [.int .i64 v11, .int .i64 v12]] => f3_l0 N v4 v5 v6 v10 v11 v12 (fun y0 => K .ret [.bool y0] []) (fun y0 y1 => K (.exit 0) [.ptr 0 0 0, .ptr 2 0 0, .int .i64 v4, .int .i64 v5] [.box [.map 1], .mapo true [.int .i64, .int .i64] false .int y0 y1 v10, .box [.int .i64 v11, .int .i64 v12]]) N v7 v8 v9
  | _, _ => none
noncomputable def f3_l2_o (N : Nat) : (R : Type) → List (TV S) → List (Obj S) → (Ex → List (TV S) → List (Obj S) → Option R) → Option R := fun R vals objs K => match vals, objs with
  | [.ptr 0 0 0, .ptr 2 0 0, .int .i64 v19, .int .i64 v20], [.box [.map 1], .mapo true [.int .i64, .int .i64] false .int v21 v22 v23, .box [.int .i64 v24, .int .i64 v25]] => f3_l2 N v19 v23 v24 v25 (fun y0 => K .ret [.bool y0] []) (fun y0 y1 => K (.exit 2) [.ptr 0 0 0] [.box [.map 1], .mapo true [.int .i64, .int .i64] false .int y0 y1 v23]) N v20 v21 v22
  | _, _ => none
noncomputable def f3_H (N : Nat) : Hint S := { loops := (fun c => (match c with | 0 => some { live := [7, 8, 9, 10, 11, 12], fix := [], out := (fun e => (match e with | .ret => ([6], []) | .exit 0 => ([7, 8, 9, 10], []) | _ => ([], []))), oracle := some (f3_l0_o N) } | 2 => some { live := [7, 8, 10, 13], fix := [], out := (fun e => (match e with | .ret => ([6], []) | .exit 2 => ([7], []) | _ => ([], []))), oracle := some (f3_l2_o N) } | _ => none)), mode := (fun d => (match d with  | _ => .app)), exit := [], fork := false, nd := false }
noncomputable def f3_l0_c : Code := (loopAt 0 ((Try.f3.body).getD .ret)).getD .ret
noncomputable def f3_l0_out : Ex → List Nat × List (Tgt × LK S) := fun e => (match e with | .ret => ([6], []) | .exit 0 => ([7, 8, 9, 10], []) | _ => ([], []))
theorem f3_l0_step {R : Type} (N : Nat) (v4 : Int) (v5 : Int) (v6 : Int) (v10 : Nat) (v11 : Int) (v12 : Int) (K : Ex → List (TV S) → List (Obj S) → Option R) (rec : List (TV S) → List (Obj S) → Option R) (v7 : Int) (v8 : List (List Sc × Int × Nat)) (v9 : Bool) :
    (tcode (E (f3_g N)) (f3_H N) 0 84 N f3_l0_c 0 (mkSt [7, 8, 9, 10, 11, 12] [.ptr 0 0 0, .ptr 2 0 0, .int .i64 v4, .int .i64 v5, .int .i64 v6, .int .i64 v7] [.box [.map 1], .mapo true [.int .i64, .int .i64] false .int v8 v9 v10, .box [.int .i64 v11, .int .i64 v12]]) (roundK (headOf 0 [7, 8, 9, 10, 11, 12] ([] : List (Tgt × LK S))) (fun e => headOf 0 (f3_l0_out e).1 (f3_l0_out e).2) rec K)) =
    f3_l0_b N v4 v5 v6 v10 v11 v12 (fun y0 => K .ret [.bool y0] []) (fun y0 y1 => K (.exit 0) [.ptr 0 0 0, .ptr 2 0 0, .int .i64 v4, .int .i64 v5] [.box [.map 1], .mapo true [.int .i64, .int .i64] false .int y0 y1 v10, .box [.int .i64 v11, .int .i64 v12]]) (fun v7 v8 v9 => rec [.ptr 0 0 0, .ptr 2 0 0, .int .i64 v4, .int .i64 v5, .int .i64 v6, .int .i64 v7] [.box [.map 1], .mapo true [.int .i64, .int .i64] false .int v8 v9 v10, .box [.int .i64 v11, .int .i64 v12]]) v7 v8 v9 := by kernel_rfl
theorem f3_l0_ok {R : Type} (N : Nat) (v4 : Int) (v5 : Int) (v6 : Int) (v10 : Nat) (v11 : Int) (v12 : Int) (K : Ex → List (TV S) → List (Obj S) → Option R) : ∀ (n : Nat) (v7 : Int) (v8 : List (List Sc × Int × Nat)) (v9 : Bool),
    loopN (fun vals objs k => tcode (E (f3_g N)) (f3_H N) 0 84 N f3_l0_c 0 (mkSt [7, 8, 9, 10, 11, 12] vals objs) k) (headOf 0 [7, 8, 9, 10, 11, 12] ([] : List (Tgt × LK S))) (fun e => headOf 0 (f3_l0_out e).1 (f3_l0_out e).2) n [.ptr 0 0 0, .ptr 2 0 0, .int .i64 v4, .int .i64 v5, .int .i64 v6, .int .i64 v7] [.box [.map 1], .mapo true [.int .i64, .int .i64] false .int v8 v9 v10, .box [.int .i64 v11, .int .i64 v12]] K = f3_l0 N v4 v5 v6 v10 v11 v12 (fun y0 => K .ret [.bool y0] []) (fun y0 y1 => K (.exit 0) [.ptr 0 0 0, .ptr 2 0 0, .int .i64 v4, .int .i64 v5] [.box [.map 1], .mapo true [.int .i64, .int .i64] false .int y0 y1 v10, .box [.int .i64 v11, .int .i64 v12]]) n v7 v8 v9 := by
  intro n
  induction n with
  | zero => intros; rfl
  | succ n ih =>
    intro v7 v8 v9
    rw [loopN_succ]
    exact (f3_l0_step N v4 v5 v6 v10 v11 v12 K _ v7 v8 v9).trans (congrArg (fun r => f3_l0_b N v4 v5 v6 v10 v11 v12 (fun y0 => K .ret [.bool y0] []) (fun y0 y1 => K (.exit 0) [.ptr 0 0 0, .ptr 2 0 0, .int .i64 v4, .int .i64 v5] [.box [.map 1], .mapo true [.int .i64, .int .i64] false .int y0 y1 v10, .box [.int .i64 v11, .int .i64 v12]]) r v7 v8 v9) (funext fun v7 => funext fun v8 => funext fun v9 => ih v7 v8 v9))
noncomputable def f3_l2_c : Code := (loopAt 2 ((Try.f3.body).getD .ret)).getD .ret
noncomputable def f3_l2_out : Ex → List Nat × List (Tgt × LK S) := fun e => (match e with | .ret => ([6], []) | .exit 2 => ([7], []) | _ => ([], []))
theorem f3_l2_step {R : Type} (N : Nat) (v19 : Int) (v23 : Nat) (v24 : Int) (v25 : Int) (K : Ex → List (TV S) → List (Obj S) → Option R) (rec : List (TV S) → List (Obj S) → Option R) (v20 : Int) (v21 : List (List Sc × Int × Nat)) (v22 : Bool) :
    (tcode (E (f3_g N)) (f3_H N) 0 84 N f3_l2_c 2 (mkSt [7, 8, 10, 13] [.ptr 0 0 0, .ptr 2 0 0, .int .i64 v19, .int .i64 v20] [.box [.map 1], .mapo true [.int .i64, .int .i64] false .int v21 v22 v23, .box [.int .i64 v24, .int .i64 v25]]) (roundK (headOf 0 [7, 8, 10, 13] ([] : List (Tgt × LK S))) (fun e => headOf 0 (f3_l2_out e).1 (f3_l2_out e).2) rec K)) =
    f3_l2_b N v19 v23 v24 v25 (fun y0 => K .ret [.bool y0] []) (fun y0 y1 => K (.exit 2) [.ptr 0 0 0] [.box [.map 1], .mapo true [.int .i64, .int .i64] false .int y0 y1 v23]) (fun v20 v21 v22 => rec [.ptr 0 0 0, .ptr 2 0 0, .int .i64 v19, .int .i64 v20] [.box [.map 1], .mapo true [.int .i64, .int .i64] false .int v21 v22 v23, .box [.int .i64 v24, .int .i64 v25]]) v20 v21 v22 := by kernel_rfl
theorem f3_l2_ok {R : Type} (N : Nat) (v19 : Int) (v23 : Nat) (v24 : Int) (v25 : Int) (K : Ex → List (TV S) → List (Obj S) → Option R) : ∀ (n : Nat) (v20 : Int) (v21 : List (List Sc × Int × Nat)) (v22 : Bool),
    loopN (fun vals objs k => tcode (E (f3_g N)) (f3_H N) 0 84 N f3_l2_c 2 (mkSt [7, 8, 10, 13] vals objs) k) (headOf 0 [7, 8, 10, 13] ([] : List (Tgt × LK S))) (fun e => headOf 0 (f3_l2_out e).1 (f3_l2_out e).2) n [.ptr 0 0 0, .ptr 2 0 0, .int .i64 v19, .int .i64 v20] [.box [.map 1], .mapo true [.int .i64, .int .i64] false .int v21 v22 v23, .box [.int .i64 v24, .int .i64 v25]] K = f3_l2 N v19 v23 v24 v25 (fun y0 => K .ret [.bool y0] []) (fun y0 y1 => K (.exit 2) [.ptr 0 0 0] [.box [.map 1], .mapo true [.int .i64, .int .i64] false .int y0 y1 v23]) n v20 v21 v22 := by
  intro n
  induction n with
  | zero => intros; rfl
  | succ n ih =>
    intro v20 v21 v22
    rw [loopN_succ]
    exact (f3_l2_step N v19 v23 v24 v25 K _ v20 v21 v22).trans (congrArg (fun r => f3_l2_b N v19 v23 v24 v25 (fun y0 => K .ret [.bool y0] []) (fun y0 y1 => K (.exit 2) [.ptr 0 0 0] [.box [.map 1], .mapo true [.int .i64, .int .i64] false .int y0 y1 v23]) r v20 v21 v22) (funext fun v20 => funext fun v21 => funext fun v22 => ih v20 v21 v22))
noncomputable def f3 {R : Type} (N : Nat) (n : Int) (m : Int) (again : Bool) (k0 : Bool → Option R) : Option R :=
  f9 N 3 1 (IntKind.wrap .i64 (1 + (Int.tmod (IntKind.wrap .i64 n) 60))) [] true 0 (fun (r1 : Int) (r2 : List (List Sc × Int × Nat)) (r3 : Nat) =>
  if (r1 != 0) = true then
    (k0 false)
  else
    (if again = true then
      (if IntKind.wrap .i64 (1 + (Int.tmod (IntKind.wrap .i64 n) 60)) = 0 then none else (f3_l0 N (IntKind.wrap .i64 (1 + (Int.tmod (IntKind.wrap .i64 n) 60))) (IntKind.wrap .i64 (1 + (Int.tmod (IntKind.wrap .i64 n) 60))) (Int.tmod (IntKind.wrap .i64 m) (IntKind.wrap .i64 (1 + (Int.tmod (IntKind.wrap .i64 n) 60)))) r3 3 1 (fun (y13 : Bool) =>
        k0 y13)
          (fun (y14 : List (List Sc × Int × Nat)) (y15 : Bool) =>
        f9 N 3 1 (IntKind.wrap .i64 (1 + (Int.tmod (IntKind.wrap .i64 n) 60))) y14 y15 r3 (fun (r16 : Int) (r17 : List (List Sc × Int × Nat)) (r18 : Nat) =>
          if (r16 != 0) = true then
            (k0 false)
          else
            (f3_l2 N (IntKind.wrap .i64 (1 + (Int.tmod (IntKind.wrap .i64 n) 60))) r18 3 1 (fun (y30 : Bool) =>
            k0 y30)
              (fun (y31 : List (List Sc × Int × Nat)) (y32 : Bool) =>
            (ifB (((y31.length : Nat) : Int) == 0) true (f12 N  (fun (r33 : Bool) =>
              some r33)) (some false)).bind fun c34 =>
              k0 c34) N 1 r17 y15))) N 0 r2 true))
    else
      (f3_l2 N (IntKind.wrap .i64 (1 + (Int.tmod (IntKind.wrap .i64 n) 60))) r3 3 1 (fun (y35 : Bool) =>
      k0 y35)
        (fun (y36 : List (List Sc × Int × Nat)) (y37 : Bool) =>
      (ifB (((y36.length : Nat) : Int) == 0) true (f12 N  (fun (r38 : Bool) =>
        some r38)) (some false)).bind fun c39 =>
        k0 c39) N 1 r2 true)))
theorem f3_run {R : Type} (N : Nat) (n : Int) (m : Int) (again : Bool) (K : Res S → Option R) :
    runFn (E (f3_g N)) (f3_H N) N Try.f3 [.int .u8 n, .int .u8 m, .bool again] [] K = f3 N n m again (fun y0 => K ⟨.bool y0, some [], []⟩) := by kernel_rfl
theorem f3_loops (N : Nat) : ∀ c, Try.f3.body = some c → LoopsOK (E (f3_g N)) (f3_H N) 0 Try.f3.ntmps N c 0 := by
  intro c hc
  have hnt : Try.f3.ntmps = 84 := by kernel_rfl
  rw [hnt]
  have hl : ((Try.f3.body).map fun c => loopsOf c 0) = some [(0, f3_l0_c), (2, f3_l2_c)] := by kernel_rfl
  rw [hc] at hl
  simp only [Option.map_some, Option.some.injEq] at hl
  refine loopsOK_of c 0 fun p hp h L h1 h2 R vals objs K r hr => ?_
  rw [hl] at hp
  simp only [List.mem_cons, List.not_mem_nil, or_false] at hp
  rcases hp with rfl | rfl
  · cases h1; cases h2
    simp only [f3_l0_o] at hr
    split at hr
    · exact (f3_l0_ok N _ _ _ _ _ _ K N _ _ _).trans hr
    · cases hr
  · cases h1; cases h2
    simp only [f3_l2_o] at hr
    split at hr
    · exact (f3_l2_ok N _ _ _ _ K N _ _ _).trans hr
    · cases hr

theorem f3_call (N : Nat) (n : Int) (m : Int) (again : Bool) {R : Type} (k : Res S → Option R) (r : R) (h : runFn (E (f3_g N)) (f3_H N) N Try.f3 [.int .u8 n, .int .u8 m, .bool again] [] k = some r) : ∃ res, k res = some r ∧ CallOK (E noCalls) 3 [.int .u8 n, .int .u8 m, .bool again] [] res := by
  obtain ⟨res, h1, h2⟩ := runFn_sound (E_ok (f3_g N)) (f3_g_ok N).callf rfl (f := 3) (fn := Try.f3) (by kernel_rfl) (by kernel_rfl) (f3_loops N) h
  exact ⟨res, h1, unE h2⟩

noncomputable def f4_g (N : Nat) : Callf S := fun f args objs R k => match f with
  | 8 => e8 N args objs R k
  | 9 => e9 N args objs R k
  | 10 => e10 N args objs R k
  | 12 => e12 N args objs R k
  | 13 => e13 N args objs R k
  | _ => none
theorem f4_g_ok (N : Nat) : TabOK (E noCalls) (f4_g N) := by
  intro f args objs R k r h
  unfold f4_g at h
  split at h
  · exact e8_ok N _ _ _ _ _ h
  · exact e9_ok N _ _ _ _ _ h
  · exact e10_ok N _ _ _ _ _ h
  · exact e12_ok N _ _ _ _ _ h
  · exact e13_ok N _ _ _ _ _ h
  · cases h
noncomputable def f4_l0_b {R : Type} (N : Nat) (v4 : List Int) (v5 : Int) (v8 : Bool) (v11 : Bool) (kp0 : Bool → Option R) (kp1 : (List (List Sc × Int × Nat)) → Nat → (List (List Sc × Bool × Nat)) → Nat → Option R) (rec : Int → (List (List Sc × Int × Nat)) → Nat → (List (List Sc × Bool × Nat)) → Nat → Option R) (v6 : Int) (v7 : List (List Sc × Int × Nat)) (v9 : Nat) (v10 : List (List Sc × Bool × Nat)) (v12 : Nat) : Option R :=
  if (decide (v6 < ((v4.length : Nat) : Int))) = true then
    ((at? v4 v6).bind fun e13 =>
    (at? v4 v6).bind fun e14 =>
    f9 N (Int.tmod (IntKind.wrap .i64 e13) 12) (Int.tmod (IntKind.wrap .i64 (Int.tdiv (IntKind.wrap .i64 e14) 12)) 6) (IntKind.wrap .i64 (1 + (Int.tmod (IntKind.wrap .i64 v5) 5))) v7 v8 v9 (fun (r15 : Int) (r16 : List (List Sc × Int × Nat)) (r17 : Nat) =>
    if (r15 != 0) = true then
      (kp0 false)
    else
      (rec (IntKind.wrap .i64 (v6 + 1)) r16 r17 (updM [.int .i64 (Int.tmod (IntKind.wrap .i64 e13) 12), .int .i64 (Int.tmod (IntKind.wrap .i64 (Int.tdiv (IntKind.wrap .i64 e14) 12)) 6)] true v12 v10) (if (findM [.int .i64 (Int.tmod (IntKind.wrap .i64 e13) 12), .int .i64 (Int.tmod (IntKind.wrap .i64 (Int.tdiv (IntKind.wrap .i64 e14) 12)) 6)] v10).isSome = true then v12 else v12 + 1))))
  else
    (kp1 v7 v9 v10 v12)
noncomputable def f4_l0 {R : Type} (N : Nat) (v4 : List Int) (v5 : Int) (v8 : Bool) (v11 : Bool) (kp0 : Bool → Option R) (kp1 : (List (List Sc × Int × Nat)) → Nat → (List (List Sc × Bool × Nat)) → Nat → Option R) : Nat → Int → (List (List Sc × Int × Nat)) → Nat → (List (List Sc × Bool × Nat)) → Nat → Option R
  | 0 => fun _ _ _ _ _ => none
  | n + 1 => fun v6 v7 v9 v10 v12 => f4_l0_b N v4 v5 v8 v11 kp0 kp1 (f4_l0 N v4 v5 v8 v11 kp0 kp1 n) v6 v7 v9 v10 v12
noncomputable def f4_l2_b {R : Type} (N : Nat) (v23 : Int) (v27 : Nat) (v28 : List (List Sc × Bool × Nat)) (v29 : Bool) (v30 : Nat) (kp0 : Bool → Option R) (kp1 : (List (List Sc × Int × Nat)) → Bool → Option R) (rec : Int → (List (List Sc × Int × Nat)) → Bool → Option R) (v24 : Int) (v25 : List (List Sc × Int × Nat)) (v26 : Bool) : Option R :=
  if (decide (v24 < (Int.tmod (IntKind.wrap .i64 v23) 5))) = true then
    (if v25.length ≤ 1000 then (if (decide ((((tickF v25).length : Nat) : Int) > 0)) = true then
        (kp0 false)
      else
        (rec (IntKind.wrap .i64 (v24 + 1)) (tickL v25) false)) else none)
  else
    (kp1 v25 v26)
noncomputable def f4_l2 {R : Type} (N : Nat) (v23 : Int) (v27 : Nat) (v28 : List (List Sc × Bool × Nat)) (v29 : Bool) (v30 : Nat) (kp0 : Bool → Option R) (kp1 : (List (List Sc × Int × Nat)) → Bool → Option R) : Nat → Int → (List (List Sc × Int × Nat)) → Bool → Option R
  | 0 => fun _ _ _ => none
  | n + 1 => fun v24 v25 v26 => f4_l2_b N v23 v27 v28 v29 v30 kp0 kp1 (f4_l2 N v23 v27 v28 v29 v30 kp0 kp1 n) v24 v25 v26
noncomputable def f4_l4_b {R : Type} (N : Nat) (v34 : List Fired) (v36 : List (List Sc × Bool × Nat)) (v37 : Bool) (v38 : Nat) (kp0 : Bool → Option R) (kp1 : Option R) (rec : Int → Option R) (v35 : Int) : Option R :=
  if (decide (v35 < ((v34.length : Nat) : Int))) = true then
    ((at? v34 v35).bind fun e39 =>
    (ifB (!((findM [.int .i64 e39.inst, .int .i64 e39.timer] v36).getD false)) false ((ifB (decide (v35 > 0)) true ((at? v34 (IntKind.wrap .i64 (v35 - 1))).bind fun e40 =>
    (at? v34 v35).bind fun e41 =>
    f13 N e40.inst e40.timer e41.inst e41.timer (fun (r42 : Bool) =>
    some (!r42))) (some false)).bind fun c43 =>
    some c43) (some true)).bind fun c44 =>
    if c44 = true then
      (kp0 false)
    else
      (rec (IntKind.wrap .i64 (v35 + 1))))
  else
    (kp1 )
noncomputable def f4_l4 {R : Type} (N : Nat) (v34 : List Fired) (v36 : List (List Sc × Bool × Nat)) (v37 : Bool) (v38 : Nat) (kp0 : Bool → Option R) (kp1 : Option R) : Nat → Int → Option R
  | 0 => fun _ => none
  | n + 1 => fun v35 => f4_l4_b N v34 v36 v37 v38 kp0 kp1 (f4_l4 N v34 v36 v37 v38 kp0 kp1 n) v35
noncomputable def f4_l0_o (N : Nat) : (R : Type) → List (TV S) → List (Obj S) → (Ex → List (TV S) → List (Obj S) → Option R) → Option R := fun R vals objs K => match vals, objs with
  | [.tree .u16 v4, .int .u8 v5, .ptr 0 0 0, .map 2, .int .i64 v6], [.box [.map 1], .mapo true [.int .i64, .int .i64] false .int v7 v8 v9, .mapo true [.int .i64, .int .i64] false .bool v10 v11 v12] => f4_l0 N v4 v5 v8 v11 (fun y0 => K .ret [.bool y0] []) (fun y0 y1 y2 y3 => K (.exit 0) [.int .u8 v5, .ptr 0 0 0, .map 2] [.box [.map 1], .mapo true [.int .i64, .int .i64] false .int y0 v8 y1, .mapo true [.int .i64, .int .i64] false .bool y2 v11 y3]) N v6 v7 v9 v10 v12
  | _, _ => none
noncomputable def f4_l2_o (N : Nat) : (R : Type) → List (TV S) → List (Obj S) → (Ex → List (TV S) → List (Obj S) → Option R) → Option R := fun R vals objs K => match vals, objs with
  | [.int .u8 v23, .ptr 0 0 0, .map 2, .int .i64 v24], [.box [.map 1], .mapo true [.int .i64, .int .i64] false .int v25 v26 v27, .mapo true [.int .i64, .int .i64] false .bool v28 v29 v30] => f4_l2 N v23 v27 v28 v29 v30 (fun y0 => K .ret [.bool y0] []) (fun y0 y1 => K (.exit 2) [.ptr 0 0 0, .map 2] [.box [.map 1], .mapo true [.int .i64, .int .i64] false .int y0 y1 v27, .mapo true [.int .i64, .int .i64] false .bool v28 v29 v30]) N v24 v25 v26
  | _, _ => none
noncomputable def f4_l4_o (N : Nat) : (R : Type) → List (TV S) → List (Obj S) → (Ex → List (TV S) → List (Obj S) → Option R) → Option R := fun R vals objs K => match vals, objs with
  | [.map 0, .tree .fired v34, .int .i64 v35], [.mapo true [.int .i64, .int .i64] false .bool v36 v37 v38] => f4_l4 N v34 v36 v37 v38 (fun y0 => K .ret [.bool y0] []) (K (.exit 4) [.map 0, .tree .fired v34] [.mapo true [.int .i64, .int .i64] false .bool v36 v37 v38]) N v35
  | _, _ => none
noncomputable def f4_H (N : Nat) : Hint S := { loops := (fun c => (match c with | 0 => some { live := [0, 1, 5, 6, 7], fix := [], out := (fun e => (match e with | .ret => ([4], []) | .exit 0 => ([1, 5, 6], []) | _ => ([], []))), oracle := some (f4_l0_o N) } | 2 => some { live := [1, 5, 6, 9], fix := [], out := (fun e => (match e with | .ret => ([4], []) | .exit 2 => ([5, 6], []) | _ => ([], []))), oracle := some (f4_l2_o N) } | 4 => some { live := [6, 10, 11], fix := [], out := (fun e => (match e with | .ret => ([4], []) | .exit 4 => ([6, 10], []) | _ => ([], []))), oracle := some (f4_l4_o N) } | _ => none)), mode := (fun d => (match d with  | _ => .app)), exit := [], fork := false, nd := false }
noncomputable def f4_l0_c : Code := (loopAt 0 ((Try.f4.body).getD .ret)).getD .ret
noncomputable def f4_l0_out : Ex → List Nat × List (Tgt × LK S) := fun e => (match e with | .ret => ([4], []) | .exit 0 => ([1, 5, 6], []) | _ => ([], []))
theorem f4_l0_step {R : Type} (N : Nat) (v4 : List Int) (v5 : Int) (v8 : Bool) (v11 : Bool) (K : Ex → List (TV S) → List (Obj S) → Option R) (rec : List (TV S) → List (Obj S) → Option R) (v6 : Int) (v7 : List (List Sc × Int × Nat)) (v9 : Nat) (v10 : List (List Sc × Bool × Nat)) (v12 : Nat) :
    (tcode (E (f4_g N)) (f4_H N) 0 107 N f4_l0_c 0 (mkSt [0, 1, 5, 6, 7] [.tree .u16 v4, .int .u8 v5, .ptr 0 0 0, .map 2, .int .i64 v6] [.box [.map 1], .mapo true [.int .i64, .int .i64] false .int v7 v8 v9, .mapo true [.int .i64, .int .i64] false .bool v10 v11 v12]) (roundK (headOf 0 [0, 1, 5, 6, 7] ([] : List (Tgt × LK S))) (fun e => headOf 0 (f4_l0_out e).1 (f4_l0_out e).2) rec K)) =
    f4_l0_b N v4 v5 v8 v11 (fun y0 => K .ret [.bool y0] []) (fun y0 y1 y2 y3 => K (.exit 0) [.int .u8 v5, .ptr 0 0 0, .map 2] [.box [.map 1], .mapo true [.int .i64, .int .i64] false .int y0 v8 y1, .mapo true [.int .i64, .int .i64] false .bool y2 v11 y3]) (fun v6 v7 v9 v10 v12 => rec [.tree .u16 v4, .int .u8 v5, .ptr 0 0 0, .map 2, .int .i64 v6] [.box [.map 1], .mapo true [.int .i64, .int .i64] false .int v7 v8 v9, .mapo true [.int .i64, .int .i64] false .bool v10 v11 v12]) v6 v7 v9 v10 v12 := by kernel_rfl
theorem f4_l0_ok {R : Type} (N : Nat) (v4 : List Int) (v5 : Int) (v8 : Bool) (v11 : Bool) (K : Ex → List (TV S) → List (Obj S) → Option R) : ∀ (n : Nat) (v6 : Int) (v7 : List (List Sc × Int × Nat)) (v9 : Nat) (v10 : List (List Sc × Bool × Nat)) (v12 : Nat),
    loopN (fun vals objs k => tcode (E (f4_g N)) (f4_H N) 0 107 N f4_l0_c 0 (mkSt [0, 1, 5, 6, 7] vals objs) k) (headOf 0 [0, 1, 5, 6, 7] ([] : List (Tgt × LK S))) (fun e => headOf 0 (f4_l0_out e).1 (f4_l0_out e).2) n [.tree .u16 v4, .int .u8 v5, .ptr 0 0 0, .map 2, .int .i64 v6] [.box [.map 1], .mapo true [.int .i64, .int .i64] false .int v7 v8 v9, .mapo true [.int .i64, .int .i64] false .bool v10 v11 v12] K = f4_l0 N v4 v5 v8 v11 (fun y0 => K .ret [.bool y0] []) (fun y0 y1 y2 y3 => K (.exit 0) [.int .u8 v5, .ptr 0 0 0, .map 2] [.box [.map 1], .mapo true [.int .i64, .int .i64] false .int y0 v8 y1, .mapo true [.int .i64, .int .i64] false .bool y2 v11 y3]) n v6 v7 v9 v10 v12 := by
  intro n
  induction n with
  | zero => intros; rfl
  | succ n ih =>
    intro v6 v7 v9 v10 v12
    rw [loopN_succ]
    exact (f4_l0_step N v4 v5 v8 v11 K _ v6 v7 v9 v10 v12).trans (congrArg (fun r => f4_l0_b N v4 v5 v8 v11 (fun y0 => K .ret [.bool y0] []) (fun y0 y1 y2 y3 => K (.exit 0) [.int .u8 v5, .ptr 0 0 0, .map 2] [.box [.map 1], .mapo true [.int .i64, .int .i64] false .int y0 v8 y1, .mapo true [.int .i64, .int .i64] false .bool y2 v11 y3]) r v6 v7 v9 v10 v12) (funext fun v6 => funext fun v7 => funext fun v9 => funext fun v10 => funext fun v12 => ih v6 v7 v9 v10 v12))
noncomputable def f4_l2_c : Code := (loopAt 2 ((Try.f4.body).getD .ret)).getD .ret
noncomputable def f4_l2_out : Ex → List Nat × List (Tgt × LK S) := fun e => (match e with | .ret => ([4], []) | .exit 2 => ([5, 6], []) | _ => ([], []))
theorem f4_l2_step {R : Type} (N : Nat) (v23 : Int) (v27 : Nat) (v28 : List (List Sc × Bool × Nat)) (v29 : Bool) (v30 : Nat) (K : Ex → List (TV S) → List (Obj S) → Option R) (rec : List (TV S) → List (Obj S) → Option R) (v24 : Int) (v25 : List (List Sc × Int × Nat)) (v26 : Bool) :
    (tcode (E (f4_g N)) (f4_H N) 0 107 N f4_l2_c 2 (mkSt [1, 5, 6, 9] [.int .u8 v23, .ptr 0 0 0, .map 2, .int .i64 v24] [.box [.map 1], .mapo true [.int .i64, .int .i64] false .int v25 v26 v27, .mapo true [.int .i64, .int .i64] false .bool v28 v29 v30]) (roundK (headOf 0 [1, 5, 6, 9] ([] : List (Tgt × LK S))) (fun e => headOf 0 (f4_l2_out e).1 (f4_l2_out e).2) rec K)) =
    f4_l2_b N v23 v27 v28 v29 v30 (fun y0 => K .ret [.bool y0] []) (fun y0 y1 => K (.exit 2) [.ptr 0 0 0, .map 2] [.box [.map 1], .mapo true [.int .i64, .int .i64] false .int y0 y1 v27, .mapo true [.int .i64, .int .i64] false .bool v28 v29 v30]) (fun v24 v25 v26 => rec [.int .u8 v23, .ptr 0 0 0, .map 2, .int .i64 v24] [.box [.map 1], .mapo true [.int .i64, .int .i64] false .int v25 v26 v27, .mapo true [.int .i64, .int .i64] false .bool v28 v29 v30]) v24 v25 v26 := by kernel_rfl
theorem f4_l2_ok {R : Type} (N : Nat) (v23 : Int) (v27 : Nat) (v28 : List (List Sc × Bool × Nat)) (v29 : Bool) (v30 : Nat) (K : Ex → List (TV S) → List (Obj S) → Option R) : ∀ (n : Nat) (v24 : Int) (v25 : List (List Sc × Int × Nat)) (v26 : Bool),
    loopN (fun vals objs k => tcode (E (f4_g N)) (f4_H N) 0 107 N f4_l2_c 2 (mkSt [1, 5, 6, 9] vals objs) k) (headOf 0 [1, 5, 6, 9] ([] : List (Tgt × LK S))) (fun e => headOf 0 (f4_l2_out e).1 (f4_l2_out e).2) n [.int .u8 v23, .ptr 0 0 0, .map 2, .int .i64 v24] [.box [.map 1], .mapo true [.int .i64, .int .i64] false .int v25 v26 v27, .mapo true [.int .i64, .int .i64] false .bool v28 v29 v30] K = f4_l2 N v23 v27 v28 v29 v30 (fun y0 => K .ret [.bool y0] []) (fun y0 y1 => K (.exit 2) [.ptr 0 0 0, .map 2] [.box [.map 1], .mapo true [.int .i64, .int .i64] false .int y0 y1 v27, .mapo true [.int .i64, .int .i64] false .bool v28 v29 v30]) n v24 v25 v26 := by
  intro n
  induction n with
  | zero => intros; rfl
  | succ n ih =>
    intro v24 v25 v26
    rw [loopN_succ]
    exact (f4_l2_step N v23 v27 v28 v29 v30 K _ v24 v25 v26).trans (congrArg (fun r => f4_l2_b N v23 v27 v28 v29 v30 (fun y0 => K .ret [.bool y0] []) (fun y0 y1 => K (.exit 2) [.ptr 0 0 0, .map 2] [.box [.map 1], .mapo true [.int .i64, .int .i64] false .int y0 y1 v27, .mapo true [.int .i64, .int .i64] false .bool v28 v29 v30]) r v24 v25 v26) (funext fun v24 => funext fun v25 => funext fun v26 => ih v24 v25 v26))
noncomputable def f4_l4_c : Code := (loopAt 4 ((Try.f4.body).getD .ret)).getD .ret
noncomputable def f4_l4_out : Ex → List Nat × List (Tgt × LK S) := fun e => (match e with | .ret => ([4], []) | .exit 4 => ([6, 10], []) | _ => ([], []))
theorem f4_l4_step {R : Type} (N : Nat) (v34 : List Fired) (v36 : List (List Sc × Bool × Nat)) (v37 : Bool) (v38 : Nat) (K : Ex → List (TV S) → List (Obj S) → Option R) (rec : List (TV S) → List (Obj S) → Option R) (v35 : Int) :
    (tcode (E (f4_g N)) (f4_H N) 0 107 N f4_l4_c 4 (mkSt [6, 10, 11] [.map 0, .tree .fired v34, .int .i64 v35] [.mapo true [.int .i64, .int .i64] false .bool v36 v37 v38]) (roundK (headOf 0 [6, 10, 11] ([] : List (Tgt × LK S))) (fun e => headOf 0 (f4_l4_out e).1 (f4_l4_out e).2) rec K)) =
    f4_l4_b N v34 v36 v37 v38 (fun y0 => K .ret [.bool y0] []) (K (.exit 4) [.map 0, .tree .fired v34] [.mapo true [.int .i64, .int .i64] false .bool v36 v37 v38]) (fun v35 => rec [.map 0, .tree .fired v34, .int .i64 v35] [.mapo true [.int .i64, .int .i64] false .bool v36 v37 v38]) v35 := by kernel_rfl
theorem f4_l4_ok {R : Type} (N : Nat) (v34 : List Fired) (v36 : List (List Sc × Bool × Nat)) (v37 : Bool) (v38 : Nat) (K : Ex → List (TV S) → List (Obj S) → Option R) : ∀ (n : Nat) (v35 : Int),
    loopN (fun vals objs k => tcode (E (f4_g N)) (f4_H N) 0 107 N f4_l4_c 4 (mkSt [6, 10, 11] vals objs) k) (headOf 0 [6, 10, 11] ([] : List (Tgt × LK S))) (fun e => headOf 0 (f4_l4_out e).1 (f4_l4_out e).2) n [.map 0, .tree .fired v34, .int .i64 v35] [.mapo true [.int .i64, .int .i64] false .bool v36 v37 v38] K = f4_l4 N v34 v36 v37 v38 (fun y0 => K .ret [.bool y0] []) (K (.exit 4) [.map 0, .tree .fired v34] [.mapo true [.int .i64, .int .i64] false .bool v36 v37 v38]) n v35 := by
  intro n
  induction n with
  | zero => intros; rfl
  | succ n ih =>
    intro v35
    rw [loopN_succ]
    exact (f4_l4_step N v34 v36 v37 v38 K _ v35).trans (congrArg (fun r => f4_l4_b N v34 v36 v37 v38 (fun y0 => K .ret [.bool y0] []) (K (.exit 4) [.map 0, .tree .fired v34] [.mapo true [.int .i64, .int .i64] false .bool v36 v37 v38]) r v35) (funext fun v35 => ih v35))
noncomputable def f4 {R : Type} (N : Nat) (l : List Int) (n : Int) (k0 : Bool → Option R) : Option R :=
  if (decide (((l.length : Nat) : Int) > 200)) = true then
    ((f12 N  (fun (r2 : Bool) =>
    some r2)).bind fun c3 =>
    k0 c3)
  else
    (f4_l0 N l n true true (fun (y18 : Bool) =>
    k0 y18)
      (fun (y19 : List (List Sc × Int × Nat)) (y20 : Nat) (y21 : List (List Sc × Bool × Nat)) (y22 : Nat) =>
    f4_l2 N n y20 y21 true y22 (fun (y31 : Bool) =>
      k0 y31)
        (fun (y32 : List (List Sc × Int × Nat)) (y33 : Bool) =>
      if y32.length ≤ 1000 then (f4_l4 N (tickF y32) y21 true y22 (fun (y45 : Bool) =>
          k0 y45)
            ((ifB ((((tickF y32).length : Nat) : Int) == ((y21.length : Nat) : Int)) true (f12 N  (fun (r46 : Bool) =>
            some r46)) (some false)).bind fun c47 =>
            k0 c47) N 0) else none) N 0 y19 true) N 0 [] 0 [] 0)
theorem f4_run {R : Type} (N : Nat) (l : List Int) (n : Int) (K : Res S → Option R) :
    runFn (E (f4_g N)) (f4_H N) N Try.f4 [.tree .u16 l, .int .u8 n] [] K = f4 N l n (fun y0 => K ⟨.bool y0, some [], []⟩) := by kernel_rfl
theorem f4_loops (N : Nat) : ∀ c, Try.f4.body = some c → LoopsOK (E (f4_g N)) (f4_H N) 0 Try.f4.ntmps N c 0 := by
  intro c hc
  have hnt : Try.f4.ntmps = 107 := by kernel_rfl
  rw [hnt]
  have hl : ((Try.f4.body).map fun c => loopsOf c 0) = some [(0, f4_l0_c), (2, f4_l2_c), (4, f4_l4_c)] := by kernel_rfl
  rw [hc] at hl
  simp only [Option.map_some, Option.some.injEq] at hl
  refine loopsOK_of c 0 fun p hp h L h1 h2 R vals objs K r hr => ?_
  rw [hl] at hp
  simp only [List.mem_cons, List.not_mem_nil, or_false] at hp
  rcases hp with rfl | rfl | rfl
  · cases h1; cases h2
    simp only [f4_l0_o] at hr
    split at hr
    · exact (f4_l0_ok N _ _ _ _ K N _ _ _ _ _).trans hr
    · cases hr
  · cases h1; cases h2
    simp only [f4_l2_o] at hr
    split at hr
    · exact (f4_l2_ok N _ _ _ _ _ K N _ _ _).trans hr
    · cases hr
  · cases h1; cases h2
    simp only [f4_l4_o] at hr
    split at hr
    · exact (f4_l4_ok N _ _ _ _ K N _).trans hr
    · cases hr

theorem f4_call (N : Nat) (l : List Int) (n : Int) {R : Type} (k : Res S → Option R) (r : R) (h : runFn (E (f4_g N)) (f4_H N) N Try.f4 [.tree .u16 l, .int .u8 n] [] k = some r) : ∃ res, k res = some r ∧ CallOK (E noCalls) 4 [.tree .u16 l, .int .u8 n] [] res := by
  obtain ⟨res, h1, h2⟩ := runFn_sound (E_ok (f4_g N)) (f4_g_ok N).callf rfl (f := 4) (fn := Try.f4) (by kernel_rfl) (by kernel_rfl) (f4_loops N) h
  exact ⟨res, h1, unE h2⟩

noncomputable def e15 (N : Nat) (args : List (TV S)) (objs : List (Obj S)) (R : Type) (k : Res S → Option R) : Option R := match args, objs with
  | [.tree .fired x, .tree .fired y], [] => f15 N x y (fun q0 => k ⟨.bool q0, some [], []⟩)
  | _, _ => none
theorem e15_ok (N : Nat) (args : List (TV S)) (objs : List (Obj S)) (R : Type) (k : Res S → Option R) (r : R) (h : e15 N args objs R k = some r) : ∃ res, k res = some r ∧ CallOK (E noCalls) 15 args objs res := by
  unfold e15 at h
  split at h
  · exact f15_call N _ _ _ _ ((f15_run N _ _ _).trans h)
  · cases h

noncomputable def f5_g (N : Nat) : Callf S := fun f args objs R k => match f with
  | 8 => e8 N args objs R k
  | 9 => e9 N args objs R k
  | 10 => e10 N args objs R k
  | 11 => e11 N args objs R k
  | 12 => e12 N args objs R k
  | 14 => e14 N args objs R k
  | 15 => e15 N args objs R k
  | _ => none
theorem f5_g_ok (N : Nat) : TabOK (E noCalls) (f5_g N) := by
  intro f args objs R k r h
  unfold f5_g at h
  split at h
  · exact e8_ok N _ _ _ _ _ h
  · exact e9_ok N _ _ _ _ _ h
  · exact e10_ok N _ _ _ _ _ h
  · exact e11_ok N _ _ _ _ _ h
  · exact e12_ok N _ _ _ _ _ h
  · exact e14_ok N _ _ _ _ _ h
  · exact e15_ok N _ _ _ _ _ h
  · cases h
noncomputable def f5_l0_b {R : Type} (N : Nat) (v2 : List Int) (v3 : Int) (v6 : Bool) (v9 : Bool) (kp0 : (List (List Sc × Int × Nat)) → Nat → (List (List Sc × Int × Nat)) → Nat → Option R) (rec : Int → (List (List Sc × Int × Nat)) → Nat → (List (List Sc × Int × Nat)) → Nat → Option R) (v4 : Int) (v5 : List (List Sc × Int × Nat)) (v7 : Nat) (v8 : List (List Sc × Int × Nat)) (v10 : Nat) : Option R :=
  if (decide (v4 < ((v2.length : Nat) : Int))) = true then
    ((at? v2 v4).bind fun e11 =>
    (at? v2 v4).bind fun e12 =>
    (at? v2 v4).bind fun e13 =>
    f9 N (Int.tmod (IntKind.wrap .i64 e11) 4) (Int.tmod (IntKind.wrap .i64 (Int.tdiv (IntKind.wrap .i64 e12) 4)) 6) (IntKind.wrap .i64 (1 + (Int.tmod (IntKind.wrap .i64 (Int.tdiv (IntKind.wrap .i64 e13) 24)) 9))) v5 v6 v7 (fun (r14 : Int) (r15 : List (List Sc × Int × Nat)) (r16 : Nat) =>
    if ((Int.tmod (IntKind.wrap .i64 e11) 4) != v3) = true then
      (f9 N (Int.tmod (IntKind.wrap .i64 e11) 4) (Int.tmod (IntKind.wrap .i64 (Int.tdiv (IntKind.wrap .i64 e12) 4)) 6) (IntKind.wrap .i64 (1 + (Int.tmod (IntKind.wrap .i64 (Int.tdiv (IntKind.wrap .i64 e13) 24)) 9))) v8 v9 v10 (fun (r17 : Int) (r18 : List (List Sc × Int × Nat)) (r19 : Nat) =>
      rec (IntKind.wrap .i64 (v4 + 1)) r15 r16 r18 r19))
    else
      (rec (IntKind.wrap .i64 (v4 + 1)) r15 r16 v8 v10)))
  else
    (kp0 v5 v7 v8 v10)
noncomputable def f5_l0 {R : Type} (N : Nat) (v2 : List Int) (v3 : Int) (v6 : Bool) (v9 : Bool) (kp0 : (List (List Sc × Int × Nat)) → Nat → (List (List Sc × Int × Nat)) → Nat → Option R) : Nat → Int → (List (List Sc × Int × Nat)) → Nat → (List (List Sc × Int × Nat)) → Nat → Option R
  | 0 => fun _ _ _ _ _ => none
  | n + 1 => fun v4 v5 v7 v8 v10 => f5_l0_b N v2 v3 v6 v9 kp0 (f5_l0 N v2 v3 v6 v9 kp0 n) v4 v5 v7 v8 v10
noncomputable def f5_l2_b {R : Type} (N : Nat) (v27 : Nat) (v30 : Nat) (kp0 : Bool → Option R) (kp1 : (List (List Sc × Int × Nat)) → Bool → Option R) (rec : Int → (List (List Sc × Int × Nat)) → Bool → (List (List Sc × Int × Nat)) → Bool → Option R) (v24 : Int) (v25 : List (List Sc × Int × Nat)) (v26 : Bool) (v28 : List (List Sc × Int × Nat)) (v29 : Bool) : Option R :=
  if (decide (v24 < 10)) = true then
    (if v25.length ≤ 1000 then (if v28.length ≤ 1000 then (f15 N (tickF v25) (tickF v28) (fun (r31 : Bool) =>
        if (!r31) = true then
          (kp0 false)
        else
          (rec (IntKind.wrap .i64 (v24 + 1)) (tickL v25) false (tickL v28) false))) else none) else none)
  else
    (kp1 v25 v26)
noncomputable def f5_l2 {R : Type} (N : Nat) (v27 : Nat) (v30 : Nat) (kp0 : Bool → Option R) (kp1 : (List (List Sc × Int × Nat)) → Bool → Option R) : Nat → Int → (List (List Sc × Int × Nat)) → Bool → (List (List Sc × Int × Nat)) → Bool → Option R
  | 0 => fun _ _ _ _ _ => none
  | n + 1 => fun v24 v25 v26 v28 v29 => f5_l2_b N v27 v30 kp0 kp1 (f5_l2 N v27 v30 kp0 kp1 n) v24 v25 v26 v28 v29
noncomputable def f5_l0_o (N : Nat) : (R : Type) → List (TV S) → List (Obj S) → (Ex → List (TV S) → List (Obj S) → Option R) → Option R := fun R vals objs K => match vals, objs with
  | [.tree .u16 v2, .ptr 0 0 0, .ptr 2 0 0, .int .i64 v3, .int .i64 v4], [.box [.map 1], .mapo true [.int .i64, .int .i64] false .int v5 v6 v7, .box [.map 3], .mapo true [.int .i64, .int .i64] false .int v8 v9 v10] => f5_l0 N v2 v3 v6 v9 (fun y0 y1 y2 y3 => K (.exit 0) [.ptr 0 0 0, .ptr 2 0 0, .int .i64 v3] [.box [.map 1], .mapo true [.int .i64, .int .i64] false .int y0 v6 y1, .box [.map 3], .mapo true [.int .i64, .int .i64] false .int y2 v9 y3]) N v4 v5 v7 v8 v10
  | _, _ => none
noncomputable def f5_l2_o (N : Nat) : (R : Type) → List (TV S) → List (Obj S) → (Ex → List (TV S) → List (Obj S) → Option R) → Option R := fun R vals objs K => match vals, objs with
  | [.ptr 0 0 0, .ptr 2 0 0, .int .i64 v24], [.box [.map 1], .mapo true [.int .i64, .int .i64] false .int v25 v26 v27, .box [.map 3], .mapo true [.int .i64, .int .i64] false .int v28 v29 v30] => f5_l2 N v27 v30 (fun y0 => K .ret [.bool y0] []) (fun y0 y1 => K (.exit 2) [.ptr 0 0 0] [.box [.map 1], .mapo true [.int .i64, .int .i64] false .int y0 y1 v27]) N v24 v25 v26 v28 v29
  | _, _ => none
noncomputable def f5_H (N : Nat) : Hint S := { loops := (fun c => (match c with | 0 => some { live := [0, 5, 6, 7, 9], fix := [], out := (fun e => (match e with | .exit 0 => ([5, 6, 7], []) | _ => ([], []))), oracle := some (f5_l0_o N) } | 2 => some { live := [5, 6, 12], fix := [], out := (fun e => (match e with | .ret => ([4], []) | .exit 2 => ([5], []) | _ => ([], []))), oracle := some (f5_l2_o N) } | _ => none)), mode := (fun d => (match d with  | _ => .app)), exit := [], fork := true, nd := false }
noncomputable def f5_l0_c : Code := (loopAt 0 ((Try.f5.body).getD .ret)).getD .ret
noncomputable def f5_l0_out : Ex → List Nat × List (Tgt × LK S) := fun e => (match e with | .exit 0 => ([5, 6, 7], []) | _ => ([], []))
theorem f5_l0_step {R : Type} (N : Nat) (v2 : List Int) (v3 : Int) (v6 : Bool) (v9 : Bool) (K : Ex → List (TV S) → List (Obj S) → Option R) (rec : List (TV S) → List (Obj S) → Option R) (v4 : Int) (v5 : List (List Sc × Int × Nat)) (v7 : Nat) (v8 : List (List Sc × Int × Nat)) (v10 : Nat) :
    (tcode (E (f5_g N)) (f5_H N) 0 110 N f5_l0_c 0 (mkSt [0, 5, 6, 7, 9] [.tree .u16 v2, .ptr 0 0 0, .ptr 2 0 0, .int .i64 v3, .int .i64 v4] [.box [.map 1], .mapo true [.int .i64, .int .i64] false .int v5 v6 v7, .box [.map 3], .mapo true [.int .i64, .int .i64] false .int v8 v9 v10]) (roundK (headOf 0 [0, 5, 6, 7, 9] ([] : List (Tgt × LK S))) (fun e => headOf 0 (f5_l0_out e).1 (f5_l0_out e).2) rec K)) =
    f5_l0_b N v2 v3 v6 v9 (fun y0 y1 y2 y3 => K (.exit 0) [.ptr 0 0 0, .ptr 2 0 0, .int .i64 v3] [.box [.map 1], .mapo true [.int .i64, .int .i64] false .int y0 v6 y1, .box [.map 3], .mapo true [.int .i64, .int .i64] false .int y2 v9 y3]) (fun v4 v5 v7 v8 v10 => rec [.tree .u16 v2, .ptr 0 0 0, .ptr 2 0 0, .int .i64 v3, .int .i64 v4] [.box [.map 1], .mapo true [.int .i64, .int .i64] false .int v5 v6 v7, .box [.map 3], .mapo true [.int .i64, .int .i64] false .int v8 v9 v10]) v4 v5 v7 v8 v10 := by kernel_rfl
theorem f5_l0_ok {R : Type} (N : Nat) (v2 : List Int) (v3 : Int) (v6 : Bool) (v9 : Bool) (K : Ex → List (TV S) → List (Obj S) → Option R) : ∀ (n : Nat) (v4 : Int) (v5 : List (List Sc × Int × Nat)) (v7 : Nat) (v8 : List (List Sc × Int × Nat)) (v10 : Nat),
    loopN (fun vals objs k => tcode (E (f5_g N)) (f5_H N) 0 110 N f5_l0_c 0 (mkSt [0, 5, 6, 7, 9] vals objs) k) (headOf 0 [0, 5, 6, 7, 9] ([] : List (Tgt × LK S))) (fun e => headOf 0 (f5_l0_out e).1 (f5_l0_out e).2) n [.tree .u16 v2, .ptr 0 0 0, .ptr 2 0 0, .int .i64 v3, .int .i64 v4] [.box [.map 1], .mapo true [.int .i64, .int .i64] false .int v5 v6 v7, .box [.map 3], .mapo true [.int .i64, .int .i64] false .int v8 v9 v10] K = f5_l0 N v2 v3 v6 v9 (fun y0 y1 y2 y3 => K (.exit 0) [.ptr 0 0 0, .ptr 2 0 0, .int .i64 v3] [.box [.map 1], .mapo true [.int .i64, .int .i64] false .int y0 v6 y1, .box [.map 3], .mapo true [.int .i64, .int .i64] false .int y2 v9 y3]) n v4 v5 v7 v8 v10 := by
  intro n
  induction n with
  | zero => intros; rfl
  | succ n ih =>
    intro v4 v5 v7 v8 v10
    rw [loopN_succ]
    exact (f5_l0_step N v2 v3 v6 v9 K _ v4 v5 v7 v8 v10).trans (congrArg (fun r => f5_l0_b N v2 v3 v6 v9 (fun y0 y1 y2 y3 => K (.exit 0) [.ptr 0 0 0, .ptr 2 0 0, .int .i64 v3] [.box [.map 1], .mapo true [.int .i64, .int .i64] false .int y0 v6 y1, .box [.map 3], .mapo true [.int .i64, .int .i64] false .int y2 v9 y3]) r v4 v5 v7 v8 v10) (funext fun v4 => funext fun v5 => funext fun v7 => funext fun v8 => funext fun v10 => ih v4 v5 v7 v8 v10))
noncomputable def f5_l2_c : Code := (loopAt 2 ((Try.f5.body).getD .ret)).getD .ret
noncomputable def f5_l2_out : Ex → List Nat × List (Tgt × LK S) := fun e => (match e with | .ret => ([4], []) | .exit 2 => ([5], []) | _ => ([], []))
theorem f5_l2_step {R : Type} (N : Nat) (v27 : Nat) (v30 : Nat) (K : Ex → List (TV S) → List (Obj S) → Option R) (rec : List (TV S) → List (Obj S) → Option R) (v24 : Int) (v25 : List (List Sc × Int × Nat)) (v26 : Bool) (v28 : List (List Sc × Int × Nat)) (v29 : Bool) :
    (tcode (E (f5_g N)) (f5_H N) 0 110 N f5_l2_c 2 (mkSt [5, 6, 12] [.ptr 0 0 0, .ptr 2 0 0, .int .i64 v24] [.box [.map 1], .mapo true [.int .i64, .int .i64] false .int v25 v26 v27, .box [.map 3], .mapo true [.int .i64, .int .i64] false .int v28 v29 v30]) (roundK (headOf 0 [5, 6, 12] ([] : List (Tgt × LK S))) (fun e => headOf 0 (f5_l2_out e).1 (f5_l2_out e).2) rec K)) =
    f5_l2_b N v27 v30 (fun y0 => K .ret [.bool y0] []) (fun y0 y1 => K (.exit 2) [.ptr 0 0 0] [.box [.map 1], .mapo true [.int .i64, .int .i64] false .int y0 y1 v27]) (fun v24 v25 v26 v28 v29 => rec [.ptr 0 0 0, .ptr 2 0 0, .int .i64 v24] [.box [.map 1], .mapo true [.int .i64, .int .i64] false .int v25 v26 v27, .box [.map 3], .mapo true [.int .i64, .int .i64] false .int v28 v29 v30]) v24 v25 v26 v28 v29 := by kernel_rfl
theorem f5_l2_ok {R : Type} (N : Nat) (v27 : Nat) (v30 : Nat) (K : Ex → List (TV S) → List (Obj S) → Option R) : ∀ (n : Nat) (v24 : Int) (v25 : List (List Sc × Int × Nat)) (v26 : Bool) (v28 : List (List Sc × Int × Nat)) (v29 : Bool),
    loopN (fun vals objs k => tcode (E (f5_g N)) (f5_H N) 0 110 N f5_l2_c 2 (mkSt [5, 6, 12] vals objs) k) (headOf 0 [5, 6, 12] ([] : List (Tgt × LK S))) (fun e => headOf 0 (f5_l2_out e).1 (f5_l2_out e).2) n [.ptr 0 0 0, .ptr 2 0 0, .int .i64 v24] [.box [.map 1], .mapo true [.int .i64, .int .i64] false .int v25 v26 v27, .box [.map 3], .mapo true [.int .i64, .int .i64] false .int v28 v29 v30] K = f5_l2 N v27 v30 (fun y0 => K .ret [.bool y0] []) (fun y0 y1 => K (.exit 2) [.ptr 0 0 0] [.box [.map 1], .mapo true [.int .i64, .int .i64] false .int y0 y1 v27]) n v24 v25 v26 v28 v29 := by
  intro n
  induction n with
  | zero => intros; rfl
  | succ n ih =>
    intro v24 v25 v26 v28 v29
    rw [loopN_succ]
    exact (f5_l2_step N v27 v30 K _ v24 v25 v26 v28 v29).trans (congrArg (fun r => f5_l2_b N v27 v30 (fun y0 => K .ret [.bool y0] []) (fun y0 y1 => K (.exit 2) [.ptr 0 0 0] [.box [.map 1], .mapo true [.int .i64, .int .i64] false .int y0 y1 v27]) r v24 v25 v26 v28 v29) (funext fun v24 => funext fun v25 => funext fun v26 => funext fun v28 => funext fun v29 => ih v24 v25 v26 v28 v29))
noncomputable def f5 {R : Type} (N : Nat) (l : List Int) (gone : Int) (k0 : Bool → Option R) : Option R :=
  if (decide (((l.length : Nat) : Int) > 100)) = true then
    (f12 N  (fun (r1 : Bool) =>
    k0 r1))
  else
    (f5_l0 N l (Int.tmod (IntKind.wrap .i64 gone) 4) true true (fun (y20 : List (List Sc × Int × Nat)) (y21 : Nat) (y22 : List (List Sc × Int × Nat)) (y23 : Nat) =>
    if (((IntKind.wrap .i64 (((y20.length : Nat) : Int) - (((clr (Int.tmod (IntKind.wrap .i64 gone) 4) y20).length : Nat) : Int))) != (IntKind.wrap .i64 (((y20.length : Nat) : Int) - ((y22.length : Nat) : Int)))) == false) = true then
        (if ((IntKind.wrap .i64 ((((clr (Int.tmod (IntKind.wrap .i64 gone) 4) y20).length : Nat) : Int) - (((clr (Int.tmod (IntKind.wrap .i64 gone) 4) (clr (Int.tmod (IntKind.wrap .i64 gone) 4) y20)).length : Nat) : Int))) != 0) = true then
          (k0 false)
        else
          (f5_l2 N y21 y23 (fun (y32 : Bool) =>
          k0 y32)
            (fun (y33 : List (List Sc × Int × Nat)) (y34 : Bool) =>
          if ((((y33.length : Nat) : Int) == 0) == true) = true then
              (f12 N  (fun (r35 : Bool) =>
              k0 r35))
            else
              (k0 false)) N 0 (clr (Int.tmod (IntKind.wrap .i64 gone) 4) (clr (Int.tmod (IntKind.wrap .i64 gone) 4) y20)) false y22 true))
      else
        (k0 false)) N 0 [] 0 [] 0)
theorem f5_run {R : Type} (N : Nat) (l : List Int) (gone : Int) (K : Res S → Option R) :
    runFn (E (f5_g N)) (f5_H N) N Try.f5 [.tree .u16 l, .int .u8 gone] [] K = f5 N l gone (fun y0 => K ⟨.bool y0, some [], []⟩) := by kernel_rfl
theorem f5_loops (N : Nat) : ∀ c, Try.f5.body = some c → LoopsOK (E (f5_g N)) (f5_H N) 0 Try.f5.ntmps N c 0 := by
  intro c hc
  have hnt : Try.f5.ntmps = 110 := by kernel_rfl
  rw [hnt]
  have hl : ((Try.f5.body).map fun c => loopsOf c 0) = some [(0, f5_l0_c), (2, f5_l2_c)] := by kernel_rfl
  rw [hc] at hl
  simp only [Option.map_some, Option.some.injEq] at hl
  refine loopsOK_of c 0 fun p hp h L h1 h2 R vals objs K r hr => ?_
  rw [hl] at hp
  simp only [List.mem_cons, List.not_mem_nil, or_false] at hp
  rcases hp with rfl | rfl
  · cases h1; cases h2
    simp only [f5_l0_o] at hr
    split at hr
    · exact (f5_l0_ok N _ _ _ _ K N _ _ _ _ _).trans hr
    · cases hr
  · cases h1; cases h2
    simp only [f5_l2_o] at hr
    split at hr
    · exact (f5_l2_ok N _ _ K N _ _ _ _ _).trans hr
    · cases hr

theorem f5_call (N : Nat) (l : List Int) (gone : Int) {R : Type} (k : Res S → Option R) (r : R) (h : runFn (E (f5_g N)) (f5_H N) N Try.f5 [.tree .u16 l, .int .u8 gone] [] k = some r) : ∃ res, k res = some r ∧ CallOK (E noCalls) 5 [.tree .u16 l, .int .u8 gone] [] res := by
  obtain ⟨res, h1, h2⟩ := runFn_sound (E_ok (f5_g N)) (f5_g_ok N).callf rfl (f := 5) (fn := Try.f5) (by kernel_rfl) (by kernel_rfl) (f5_loops N) h
  exact ⟨res, h1, unE h2⟩

noncomputable def e16 (N : Nat) (args : List (TV S)) (objs : List (Obj S)) (R : Type) (k : Res S → Option R) : Option R := match args, objs with
  | [.ptr 0 0 0, .agg [.int .i64 a, .int .i64 b], .int .i64 n], [.box [.tree .timer l]] => f16 N a b n l (fun q0 q1 => k ⟨.int .i64 q0, some [.box [.tree .timer q1]], []⟩)
  | _, _ => none
theorem e16_ok (N : Nat) (args : List (TV S)) (objs : List (Obj S)) (R : Type) (k : Res S → Option R) (r : R) (h : e16 N args objs R k = some r) : ∃ res, k res = some r ∧ CallOK (E noCalls) 16 args objs res := by
  unfold e16 at h
  split at h
  · exact f16_call N _ _ _ _ _ _ ((f16_run N _ _ _ _ _).trans h)
  · cases h

noncomputable def e19 (N : Nat) (args : List (TV S)) (objs : List (Obj S)) (R : Type) (k : Res S → Option R) : Option R := match args, objs with
  | [.ptr 0 0 0, .int .i64 i], [.box [.tree .timer l]] => f19 N i l (fun q0 q1 => k ⟨.int .i64 q0, some [.box [.tree .timer q1]], []⟩)
  | _, _ => none
theorem e19_ok (N : Nat) (args : List (TV S)) (objs : List (Obj S)) (R : Type) (k : Res S → Option R) (r : R) (h : e19 N args objs R k = some r) : ∃ res, k res = some r ∧ CallOK (E noCalls) 19 args objs res := by
  unfold e19 at h
  split at h
  · exact f19_call N _ _ _ _ ((f19_run N _ _ _).trans h)
  · cases h

noncomputable def e20 (N : Nat) (args : List (TV S)) (objs : List (Obj S)) (R : Type) (k : Res S → Option R) : Option R := match args, objs with
  | [.ptr 0 0 0], [.box [.tree .timer l]] => f20 N l (fun q0 q1 => k ⟨.tree .fired q0, some [.box [.tree .timer q1]], []⟩)
  | _, _ => none
theorem e20_ok (N : Nat) (args : List (TV S)) (objs : List (Obj S)) (R : Type) (k : Res S → Option R) (r : R) (h : e20 N args objs R k = some r) : ∃ res, k res = some r ∧ CallOK (E noCalls) 20 args objs res := by
  unfold e20 at h
  split at h
  · exact f20_call N _ _ _ ((f20_run N _ _).trans h)
  · cases h

noncomputable def e22 (N : Nat) (args : List (TV S)) (objs : List (Obj S)) (R : Type) (k : Res S → Option R) : Option R := match args, objs with
  | [.ptr 0 0 0, .agg [.int .i64 a, .int .i64 b]], [.box [.tree .timer l]] => f22 N a b l (fun q0 q1 => k ⟨.tup [.int .i64 q0, .bool q1], none, []⟩)
  | _, _ => none
theorem e22_ok (N : Nat) (args : List (TV S)) (objs : List (Obj S)) (R : Type) (k : Res S → Option R) (r : R) (h : e22 N args objs R k = some r) : ∃ res, k res = some r ∧ CallOK (E noCalls) 22 args objs res := by
  unfold e22 at h
  split at h
  · rename_i a b l
    obtain ⟨res, h1, h2⟩ := f22_call N a b l (quietK _ k) r ((f22_run N a b l _).trans ((congrArg (f22 (R := R) N a b l) (show (fun q0 q1 => quietK (S := S) [.box [.tree .timer l]] k ⟨.tup [.int .i64 q0, .bool q1], some [.box [.tree .timer l]], []⟩) = (fun q0 q1 => k ⟨.tup [.int .i64 q0, .bool q1], none, []⟩) from funext fun _ => funext fun _ => quietK_eq _ _ _ _)).trans h))
    exact quiet_ok h1 h2
  · cases h

noncomputable def e24 (N : Nat) (args : List (TV S)) (objs : List (Obj S)) (R : Type) (k : Res S → Option R) : Option R := match args, objs with
  | [.ptr 0 0 0], [.box [.tree .timer l]] => f24 N l (fun q0 q1 => k ⟨.tup [.int .i64 q0, .bool q1], none, []⟩)
  | _, _ => none
theorem e24_ok (N : Nat) (args : List (TV S)) (objs : List (Obj S)) (R : Type) (k : Res S → Option R) (r : R) (h : e24 N args objs R k = some r) : ∃ res, k res = some r ∧ CallOK (E noCalls) 24 args objs res := by
  unfold e24 at h
  split at h
  · rename_i l
    obtain ⟨res, h1, h2⟩ := f24_call N l (quietK _ k) r ((f24_run N l _).trans ((congrArg (f24 (R := R) N l) (show (fun q0 q1 => quietK (S := S) [.box [.tree .timer l]] k ⟨.tup [.int .i64 q0, .bool q1], some [.box [.tree .timer l]], []⟩) = (fun q0 q1 => k ⟨.tup [.int .i64 q0, .bool q1], none, []⟩) from funext fun _ => funext fun _ => quietK_eq _ _ _ _)).trans h))
    exact quiet_ok h1 h2
  · cases h

noncomputable def f6_g (N : Nat) : Callf S := fun f args objs R k => match f with
  | 8 => e8 N args objs R k
  | 9 => e9 N args objs R k
  | 10 => e10 N args objs R k
  | 11 => e11 N args objs R k
  | 12 => e12 N args objs R k
  | 14 => e14 N args objs R k
  | 15 => e15 N args objs R k
  | 16 => e16 N args objs R k
  | 17 => e17 N args objs R k
  | 18 => e18 N args objs R k
  | 19 => e19 N args objs R k
  | 20 => e20 N args objs R k
  | 21 => e21 N args objs R k
  | 22 => e22 N args objs R k
  | 23 => e23 N args objs R k
  | 24 => e24 N args objs R k
  | _ => none
theorem f6_g_ok (N : Nat) : TabOK (E noCalls) (f6_g N) := by
  intro f args objs R k r h
  unfold f6_g at h
  split at h
  · exact e8_ok N _ _ _ _ _ h
  · exact e9_ok N _ _ _ _ _ h
  · exact e10_ok N _ _ _ _ _ h
  · exact e11_ok N _ _ _ _ _ h
  · exact e12_ok N _ _ _ _ _ h
  · exact e14_ok N _ _ _ _ _ h
  · exact e15_ok N _ _ _ _ _ h
  · exact e16_ok N _ _ _ _ _ h
  · exact e17_ok N _ _ _ _ _ h
  · exact e18_ok N _ _ _ _ _ h
  · exact e19_ok N _ _ _ _ _ h
  · exact e20_ok N _ _ _ _ _ h
  · exact e21_ok N _ _ _ _ _ h
  · exact e22_ok N _ _ _ _ _ h
  · exact e23_ok N _ _ _ _ _ h
  · exact e24_ok N _ _ _ _ _ h
  · cases h
noncomputable def f6_l0_b {R : Type} (N : Nat) (v4 : List Step) (kp0 : Bool → Option R) (kp1 : Option R) (rec : Int → (List (List Sc × Int × Nat)) → Bool → Nat → (List Timer) → Option R) (v5 : Int) (v6 : List (List Sc × Int × Nat)) (v7 : Bool) (v8 : Nat) (v9 : List Timer) : Option R :=
  if (decide (v5 < ((v4.length : Nat) : Int))) = true then
    ((at? v4 v5).bind fun e10 =>
    (ifB (decide (e10.what ≥ 0)) true (some (decide (e10.what ≤ 3))) (some false)).bind fun c11 =>
    if c11 = true then
      (f9 N e10.f.inst e10.f.timer e10.n v6 v7 v8 (fun (r12 : Int) (r13 : List (List Sc × Int × Nat)) (r14 : Nat) =>
      f16 N e10.f.inst e10.f.timer e10.n v9 (fun (r15 : Int) (r16 : List Timer) =>
      f22 N e10.f.inst e10.f.timer r16 (fun (r17 : Int) (r18 : Bool) =>
      next23 r13 (fun (r19 : Int) (r20 : Bool) =>
      f24 N r16 (fun (r21 : Int) (r22 : Bool) =>
      (ifB (!(r12 == r15)) false (some (((findM [.int .i64 e10.f.inst, .int .i64 e10.f.timer] r13).getD 0) != r17)) (some true)).bind fun c23 =>
      (ifB c23 false (some (!(((findM [.int .i64 e10.f.inst, .int .i64 e10.f.timer] r13).isSome) == r18))) (some true)).bind fun c24 =>
      (ifB c24 false (some (r19 != r21)) (some true)).bind fun c25 =>
      (ifB c25 false (some (!(r20 == r22))) (some true)).bind fun c26 =>
      (ifB c26 false (some (((r13.length : Nat) : Int) != ((r16.length : Nat) : Int))) (some true)).bind fun c27 =>
      if c27 = true then
        (kp0 false)
      else
        (rec (IntKind.wrap .i64 (v5 + 1)) r13 false r14 r16)))))))
    else
      (if (e10.what == 4) = true then
        (f17 N e10.f.inst e10.f.timer v6 v7 v8 (fun (r28 : Bool) (r29 : List (List Sc × Int × Nat)) =>
        f18 N e10.f.inst e10.f.timer v9 (fun (r30 : Bool) (r31 : List Timer) =>
        f22 N e10.f.inst e10.f.timer r31 (fun (r32 : Int) (r33 : Bool) =>
        next23 r29 (fun (r34 : Int) (r35 : Bool) =>
        f24 N r31 (fun (r36 : Int) (r37 : Bool) =>
        (ifB (!(r28 == r30)) false (some (((findM [.int .i64 e10.f.inst, .int .i64 e10.f.timer] r29).getD 0) != r32)) (some true)).bind fun c38 =>
        (ifB c38 false (some (!(((findM [.int .i64 e10.f.inst, .int .i64 e10.f.timer] r29).isSome) == r33))) (some true)).bind fun c39 =>
        (ifB c39 false (some (r34 != r36)) (some true)).bind fun c40 =>
        (ifB c40 false (some (!(r35 == r37))) (some true)).bind fun c41 =>
        (ifB c41 false (some (((r29.length : Nat) : Int) != ((r31.length : Nat) : Int))) (some true)).bind fun c42 =>
        if c42 = true then
          (kp0 false)
        else
          (rec (IntKind.wrap .i64 (v5 + 1)) r29 false v8 r31)))))))
      else
        (if (e10.what == 5) = true then
          (f19 N e10.f.inst v9 (fun (r43 : Int) (r44 : List Timer) =>
          f22 N e10.f.inst e10.f.timer r44 (fun (r45 : Int) (r46 : Bool) =>
          next23 (clr e10.f.inst v6) (fun (r47 : Int) (r48 : Bool) =>
          f24 N r44 (fun (r49 : Int) (r50 : Bool) =>
          (ifB (!((IntKind.wrap .i64 (((v6.length : Nat) : Int) - (((clr e10.f.inst v6).length : Nat) : Int))) == r43)) false (some (((findM [.int .i64 e10.f.inst, .int .i64 e10.f.timer] (clr e10.f.inst v6)).getD 0) != r45)) (some true)).bind fun c51 =>
          (ifB c51 false (some (!(((findM [.int .i64 e10.f.inst, .int .i64 e10.f.timer] (clr e10.f.inst v6)).isSome) == r46))) (some true)).bind fun c52 =>
          (ifB c52 false (some (r47 != r49)) (some true)).bind fun c53 =>
          (ifB c53 false (some (!(r48 == r50))) (some true)).bind fun c54 =>
          (ifB c54 false (some ((((clr e10.f.inst v6).length : Nat) : Int) != ((r44.length : Nat) : Int))) (some true)).bind fun c55 =>
          if c55 = true then
            (kp0 false)
          else
            (rec (IntKind.wrap .i64 (v5 + 1)) (clr e10.f.inst v6) false v8 r44))))))
        else
          (if v6.length ≤ 1000 then (f20 N v9 (fun (r56 : List Fired) (r57 : List Timer) =>
            f15 N (tickF v6) r56 (fun (r58 : Bool) =>
            f22 N e10.f.inst e10.f.timer r57 (fun (r59 : Int) (r60 : Bool) =>
            next23 (tickL v6) (fun (r61 : Int) (r62 : Bool) =>
            f24 N r57 (fun (r63 : Int) (r64 : Bool) =>
            (ifB (!r58) false (some (((findM [.int .i64 e10.f.inst, .int .i64 e10.f.timer] (tickL v6)).getD 0) != r59)) (some true)).bind fun c65 =>
            (ifB c65 false (some (!(((findM [.int .i64 e10.f.inst, .int .i64 e10.f.timer] (tickL v6)).isSome) == r60))) (some true)).bind fun c66 =>
            (ifB c66 false (some (r61 != r63)) (some true)).bind fun c67 =>
            (ifB c67 false (some (!(r62 == r64))) (some true)).bind fun c68 =>
            (ifB c68 false (some ((((tickL v6).length : Nat) : Int) != ((r57.length : Nat) : Int))) (some true)).bind fun c69 =>
            if c69 = true then
              (kp0 false)
            else
              (rec (IntKind.wrap .i64 (v5 + 1)) (tickL v6) false v8 r57))))))) else none))))
  else
    (kp1 )
noncomputable def f6_l0 {R : Type} (N : Nat) (v4 : List Step) (kp0 : Bool → Option R) (kp1 : Option R) : Nat → Int → (List (List Sc × Int × Nat)) → Bool → Nat → (List Timer) → Option R
  | 0 => fun _ _ _ _ _ => none
  | n + 1 => fun v5 v6 v7 v8 v9 => f6_l0_b N v4 kp0 kp1 (f6_l0 N v4 kp0 kp1 n) v5 v6 v7 v8 v9
noncomputable def f6_l0_o (N : Nat) : (R : Type) → List (TV S) → List (Obj S) → (Ex → List (TV S) → List (Obj S) → Option R) → Option R := fun R vals objs K => match vals, objs with
  | [.tree .step v4, .ptr 0 0 0, .ptr 2 0 0, .int .i64 v5], [.box [.map 1], .mapo true [.int .i64, .int .i64] false .int v6 v7 v8, .box [.tree .timer v9]] => f6_l0 N v4 (fun y0 => K .ret [.bool y0] []) (K (.exit 0) [] []) N v5 v6 v7 v8 v9
  | _, _ => none
noncomputable def f6_H (N : Nat) : Hint S := { loops := (fun c => (match c with | 0 => some { live := [0, 3, 4, 5], fix := [(⟨4, [0]⟩, .tree .timer)], out := (fun e => (match e with | .ret => ([2], []) | .exit 0 => ([], []) | _ => ([], []))), oracle := some (f6_l0_o N) } | _ => none)), mode := (fun d => (match d with  | _ => .app)), exit := [], fork := false, nd := false }
noncomputable def f6_l0_c : Code := (loopAt 0 ((Try.f6.body).getD .ret)).getD .ret
noncomputable def f6_l0_out : Ex → List Nat × List (Tgt × LK S) := fun e => (match e with | .ret => ([2], []) | .exit 0 => ([], []) | _ => ([], []))
theorem f6_l0_step {R : Type} (N : Nat) (v4 : List Step) (K : Ex → List (TV S) → List (Obj S) → Option R) (rec : List (TV S) → List (Obj S) → Option R) (v5 : Int) (v6 : List (List Sc × Int × Nat)) (v7 : Bool) (v8 : Nat) (v9 : List Timer) :
    (tcode (E (f6_g N)) (f6_H N) 0 153 N f6_l0_c 0 (mkSt [0, 3, 4, 5] [.tree .step v4, .ptr 0 0 0, .ptr 2 0 0, .int .i64 v5] [.box [.map 1], .mapo true [.int .i64, .int .i64] false .int v6 v7 v8, .box [.tree .timer v9]]) (roundK (headOf 0 [0, 3, 4, 5] ([(⟨4, [0]⟩, .tree .timer)] : List (Tgt × LK S))) (fun e => headOf 0 (f6_l0_out e).1 (f6_l0_out e).2) rec K)) =
    f6_l0_b N v4 (fun y0 => K .ret [.bool y0] []) (K (.exit 0) [] []) (fun v5 v6 v7 v8 v9 => rec [.tree .step v4, .ptr 0 0 0, .ptr 2 0 0, .int .i64 v5] [.box [.map 1], .mapo true [.int .i64, .int .i64] false .int v6 v7 v8, .box [.tree .timer v9]]) v5 v6 v7 v8 v9 := by kernel_rfl
theorem f6_l0_ok {R : Type} (N : Nat) (v4 : List Step) (K : Ex → List (TV S) → List (Obj S) → Option R) : ∀ (n : Nat) (v5 : Int) (v6 : List (List Sc × Int × Nat)) (v7 : Bool) (v8 : Nat) (v9 : List Timer),
    loopN (fun vals objs k => tcode (E (f6_g N)) (f6_H N) 0 153 N f6_l0_c 0 (mkSt [0, 3, 4, 5] vals objs) k) (headOf 0 [0, 3, 4, 5] ([(⟨4, [0]⟩, .tree .timer)] : List (Tgt × LK S))) (fun e => headOf 0 (f6_l0_out e).1 (f6_l0_out e).2) n [.tree .step v4, .ptr 0 0 0, .ptr 2 0 0, .int .i64 v5] [.box [.map 1], .mapo true [.int .i64, .int .i64] false .int v6 v7 v8, .box [.tree .timer v9]] K = f6_l0 N v4 (fun y0 => K .ret [.bool y0] []) (K (.exit 0) [] []) n v5 v6 v7 v8 v9 := by
  intro n
  induction n with
  | zero => intros; rfl
  | succ n ih =>
    intro v5 v6 v7 v8 v9
    rw [loopN_succ]
    exact (f6_l0_step N v4 K _ v5 v6 v7 v8 v9).trans (congrArg (fun r => f6_l0_b N v4 (fun y0 => K .ret [.bool y0] []) (K (.exit 0) [] []) r v5 v6 v7 v8 v9) (funext fun v5 => funext fun v6 => funext fun v7 => funext fun v8 => funext fun v9 => ih v5 v6 v7 v8 v9))
noncomputable def f6 {R : Type} (N : Nat) (l : List Step) (k0 : Bool → Option R) : Option R :=
  if (decide (((l.length : Nat) : Int) > 200)) = true then
    ((f12 N  (fun (r2 : Bool) =>
    some r2)).bind fun c3 =>
    k0 c3)
  else
    (f6_l0 N l (fun (y70 : Bool) =>
    k0 y70)
      (f12 N  (fun (r71 : Bool) =>
      k0 r71)) N 0 [] true 0 ([] : List Timer))
theorem f6_run {R : Type} (N : Nat) (l : List Step) (K : Res S → Option R) :
    runFn (E (f6_g N)) (f6_H N) N Try.f6 [.tree .step l] [] K = f6 N l (fun y0 => K ⟨.bool y0, some [], []⟩) := by kernel_rfl
theorem f6_loops (N : Nat) : ∀ c, Try.f6.body = some c → LoopsOK (E (f6_g N)) (f6_H N) 0 Try.f6.ntmps N c 0 := by
  intro c hc
  have hnt : Try.f6.ntmps = 153 := by kernel_rfl
  rw [hnt]
  have hl : ((Try.f6.body).map fun c => loopsOf c 0) = some [(0, f6_l0_c)] := by kernel_rfl
  rw [hc] at hl
  simp only [Option.map_some, Option.some.injEq] at hl
  refine loopsOK_of c 0 fun p hp h L h1 h2 R vals objs K r hr => ?_
  rw [hl] at hp
  simp only [List.mem_cons, List.not_mem_nil, or_false] at hp
  subst hp
  · cases h1; cases h2
    simp only [f6_l0_o] at hr
    split at hr
    · exact (f6_l0_ok N _ K N _ _ _ _ _).trans hr
    · cases hr

theorem f6_call (N : Nat) (l : List Step) {R : Type} (k : Res S → Option R) (r : R) (h : runFn (E (f6_g N)) (f6_H N) N Try.f6 [.tree .step l] [] k = some r) : ∃ res, k res = some r ∧ CallOK (E noCalls) 6 [.tree .step l] [] res := by
  obtain ⟨res, h1, h2⟩ := runFn_sound (E_ok (f6_g N)) (f6_g_ok N).callf rfl (f := 6) (fn := Try.f6) (by kernel_rfl) (by kernel_rfl) (f6_loops N) h
  exact ⟨res, h1, unE h2⟩

end Wh
