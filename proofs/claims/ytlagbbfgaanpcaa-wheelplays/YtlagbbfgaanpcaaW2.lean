/- W2: a part of the proof of WheelPlays: lemmas on the evaluator and on the functions that the law reaches. -/
import Derived.Test.YtlagbbfgaanpcaaW1
set_option maxRecDepth 100000
set_option linter.unusedVariables false
namespace Wh
open Go TE Go.Proofs
noncomputable def f14_g (N : Nat) : Callf S := fun f args objs R k => match f with
  | 11 => e11 N args objs R k
  | _ => none
theorem f14_g_ok (N : Nat) : TabOK (E noCalls) (f14_g N) := by
  intro f args objs R k r h
  unfold f14_g at h
  split at h
  · exact e11_ok N _ _ _ _ _ h
  · cases h
noncomputable def f14_l0_b {R : Type} (N : Nat) (v1 : Int) (v2 : Int) (v4 : Nat) (v5 : Nat) (kp0 : (List (List Sc × Int × Nat)) → Option R) (rec : (List (List Sc × Int × Nat)) → (List Nat) → Nat → Option R) (v3 : List (List Sc × Int × Nat)) (v6 : List Nat) (v7 : Nat) : Option R :=
  nextC v5 v6 v7 v3 (kp0 v3) fun n8 =>
  if v4 = v4 then (match findB n8.2.2 v3 with
  | some en9 => (if ((scI en9.1) == v1) = true then
      (rec (delM [.int .i64 (scI en9.1), .int .i64 (scI en9.1.tail)] v3) (n8.2.2 :: v6) v4)
    else
      (rec v3 (n8.2.2 :: v6) v4))
  | none => none) else none
noncomputable def f14_l0 {R : Type} (N : Nat) (v1 : Int) (v2 : Int) (v4 : Nat) (v5 : Nat) (kp0 : (List (List Sc × Int × Nat)) → Option R) : Nat → (List (List Sc × Int × Nat)) → (List Nat) → Nat → Option R
  | 0 => fun _ _ _ => none
  | n + 1 => fun v3 v6 v7 => f14_l0_b N v1 v2 v4 v5 kp0 (f14_l0 N v1 v2 v4 v5 kp0 n) v3 v6 v7
noncomputable def f14_l0_o (N : Nat) : (R : Type) → List (TV S) → List (Obj S) → (Ex → List (TV S) → List (Obj S) → Option R) → Option R := fun R vals objs K => match vals, objs with
  | [.ptr 0 0 0, .int .i64 v1, .int .i64 v2, .ptr 2 0 0], [.box [.map 1], .mapo true [.int .i64, .int .i64] false .int v3 true v4, .iter 1 v5 v6 v7] => f14_l0 N v1 v2 v4 v5 (fun y0 => K (.exit 0) [.ptr 0 0 0, .int .i64 v2] [.box [.map 1], .mapo true [.int .i64, .int .i64] false .int y0 true v4]) N v3 v6 v7
  | _, _ => none
noncomputable def f14_H (N : Nat) : Hint S := { loops := (fun c => (match c with | 0 => some { live := [0, 1, 5, 15], fix := [], out := (fun e => (match e with | .exit 0 => ([0, 5], []) | _ => ([], []))), oracle := some (f14_l0_o N) } | _ => none)), mode := (fun d => (match d with  | _ => .app)), exit := [], fork := false, nd := true }
noncomputable def f14_l0_c : Code := (loopAt 0 ((Try.f14.body).getD .ret)).getD .ret
noncomputable def f14_l0_out : Ex → List Nat × List (Tgt × LK S) := fun e => (match e with | .exit 0 => ([0, 5], []) | _ => ([], []))
theorem f14_l0_step {R : Type} (N : Nat) (v1 : Int) (v2 : Int) (v4 : Nat) (v5 : Nat) (K : Ex → List (TV S) → List (Obj S) → Option R) (rec : List (TV S) → List (Obj S) → Option R) (v3 : List (List Sc × Int × Nat)) (v6 : List Nat) (v7 : Nat) :
    (tcode (E (f14_g N)) (f14_H N) 2 33 N f14_l0_c 0 (mkSt [0, 1, 5, 15] [.ptr 0 0 0, .int .i64 v1, .int .i64 v2, .ptr 2 0 0] [.box [.map 1], .mapo true [.int .i64, .int .i64] false .int v3 true v4, .iter 1 v5 v6 v7]) (roundK (headOf 2 [0, 1, 5, 15] ([] : List (Tgt × LK S))) (fun e => headOf 2 (f14_l0_out e).1 (f14_l0_out e).2) rec K)) =
    f14_l0_b N v1 v2 v4 v5 (fun y0 => K (.exit 0) [.ptr 0 0 0, .int .i64 v2] [.box [.map 1], .mapo true [.int .i64, .int .i64] false .int y0 true v4]) (fun v3 v6 v7 => rec [.ptr 0 0 0, .int .i64 v1, .int .i64 v2, .ptr 2 0 0] [.box [.map 1], .mapo true [.int .i64, .int .i64] false .int v3 true v4, .iter 1 v5 v6 v7]) v3 v6 v7 := by kernel_rfl
theorem f14_l0_ok {R : Type} (N : Nat) (v1 : Int) (v2 : Int) (v4 : Nat) (v5 : Nat) (K : Ex → List (TV S) → List (Obj S) → Option R) : ∀ (n : Nat) (v3 : List (List Sc × Int × Nat)) (v6 : List Nat) (v7 : Nat),
    loopN (fun vals objs k => tcode (E (f14_g N)) (f14_H N) 2 33 N f14_l0_c 0 (mkSt [0, 1, 5, 15] vals objs) k) (headOf 2 [0, 1, 5, 15] ([] : List (Tgt × LK S))) (fun e => headOf 2 (f14_l0_out e).1 (f14_l0_out e).2) n [.ptr 0 0 0, .int .i64 v1, .int .i64 v2, .ptr 2 0 0] [.box [.map 1], .mapo true [.int .i64, .int .i64] false .int v3 true v4, .iter 1 v5 v6 v7] K = f14_l0 N v1 v2 v4 v5 (fun y0 => K (.exit 0) [.ptr 0 0 0, .int .i64 v2] [.box [.map 1], .mapo true [.int .i64, .int .i64] false .int y0 true v4]) n v3 v6 v7 := by
  intro n
  induction n with
  | zero => intros; rfl
  | succ n ih =>
    intro v3 v6 v7
    rw [loopN_succ]
    exact (f14_l0_step N v1 v2 v4 v5 K _ v3 v6 v7).trans (congrArg (fun r => f14_l0_b N v1 v2 v4 v5 (fun y0 => K (.exit 0) [.ptr 0 0 0, .int .i64 v2] [.box [.map 1], .mapo true [.int .i64, .int .i64] false .int y0 true v4]) r v3 v6 v7) (funext fun v3 => funext fun v6 => funext fun v7 => ih v3 v6 v7))
noncomputable def f14 {R : Type} (N : Nat) (i : Int) (L : List (List Sc × Int × Nat)) (cl : Nat) (k0 : Int → (List (List Sc × Int × Nat)) → Option R) : Option R :=
  f14_l0 N i ((L.length : Nat) : Int) cl cl (fun (y10 : List (List Sc × Int × Nat)) =>
  k0 (IntKind.wrap .i64 (((L.length : Nat) : Int) - ((y10.length : Nat) : Int))) y10) N L [] cl
theorem f14_run {R : Type} (N : Nat) (i : Int) (L : List (List Sc × Int × Nat)) (cl : Nat) (K : Res S → Option R) :
    runFn (E (f14_g N)) (f14_H N) N Try.f14 [.ptr 0 0 0, .int .i64 i] [.box [.map 1], .mapo true [.int .i64, .int .i64] false .int L true cl] K = f14 N i L cl (fun y0 y1 => K ⟨.int .i64 y0, some [.box [.map 1], .mapo true [.int .i64, .int .i64] false .int y1 true cl], []⟩) := by kernel_rfl
theorem f14_loops (N : Nat) : ∀ c, Try.f14.body = some c → LoopsOK (E (f14_g N)) (f14_H N) 2 Try.f14.ntmps N c 0 := by
  intro c hc
  have hnt : Try.f14.ntmps = 33 := by kernel_rfl
  rw [hnt]
  have hl : ((Try.f14.body).map fun c => loopsOf c 0) = some [(0, f14_l0_c)] := by kernel_rfl
  rw [hc] at hl
  simp only [Option.map_some, Option.some.injEq] at hl
  refine loopsOK_of c 0 fun p hp h L h1 h2 R vals objs K r hr => ?_
  rw [hl] at hp
  simp only [List.mem_cons, List.not_mem_nil, or_false] at hp
  subst hp
  · cases h1; cases h2
    simp only [f14_l0_o] at hr
    split at hr
    · exact (f14_l0_ok N _ _ _ _ K N _ _ _).trans hr
    · cases hr

theorem f14_call (N : Nat) (i : Int) (L : List (List Sc × Int × Nat)) (cl : Nat) (k : Res S → Option Unit) (h : runFn (E (f14_g N)) (f14_H N) N Try.f14 [.ptr 0 0 0, .int .i64 i] [.box [.map 1], .mapo true [.int .i64, .int .i64] false .int L true cl] k = some ()) : CallOKs (E noCalls) 14 [.ptr 0 0 0, .int .i64 i] [.box [.map 1], .mapo true [.int .i64, .int .i64] false .int L true cl] fun res => k res = some () :=
  unEs (runFn_nd (E_ok (f14_g N)) (f14_g_ok N).callf (f := 14) (fn := Try.f14) (by kernel_rfl) (by kernel_rfl) (f14_loops N) h)

noncomputable def f23_g (N : Nat) : Callf S := fun f args objs R k => match f with
  | 11 => e11 N args objs R k
  | _ => none
theorem f23_g_ok (N : Nat) : TabOK (E noCalls) (f23_g N) := by
  intro f args objs R k r h
  unfold f23_g at h
  split at h
  · exact e11_ok N _ _ _ _ _ h
  · cases h
noncomputable def f23_l0_b {R : Type} (N : Nat) (v2 : List (List Sc × Int × Nat)) (v3 : Nat) (v4 : Nat) (kp0 : Int → Option R) (rec : Int → (List Nat) → Nat → Option R) (v1 : Int) (v5 : List Nat) (v6 : Nat) : Option R :=
  nextC v4 v5 v6 v2 (kp0 v1) fun n7 =>
  if v3 = v3 then (match findB n7.2.2 v2 with
  | some en8 => (rec (if (en8.2.1 < v1) then en8.2.1 else v1) (n7.2.2 :: v5) v3)
  | none => none) else none
noncomputable def f23_l0 {R : Type} (N : Nat) (v2 : List (List Sc × Int × Nat)) (v3 : Nat) (v4 : Nat) (kp0 : Int → Option R) : Nat → Int → (List Nat) → Nat → Option R
  | 0 => fun _ _ _ => none
  | n + 1 => fun v1 v5 v6 => f23_l0_b N v2 v3 v4 kp0 (f23_l0 N v2 v3 v4 kp0 n) v1 v5 v6
noncomputable def f23_l0_o (N : Nat) : (R : Type) → List (TV S) → List (Obj S) → (Ex → List (TV S) → List (Obj S) → Option R) → Option R := fun R vals objs K => match vals, objs with
  | [.int .i64 v1, .ptr 2 0 0], [.box [.map 1], .mapo true [.int .i64, .int .i64] false .int v2 true v3, .iter 1 v4 v5 v6] => f23_l0 N v2 v3 v4 (fun y0 => K (.exit 0) [.int .i64 y0] [.box [.map 1], .mapo true [.int .i64, .int .i64] false .int v2 true v3]) N v1 v5 v6
  | _, _ => none
noncomputable def f23_H (N : Nat) : Hint S := { loops := (fun c => (match c with | 0 => some { live := [4, 14], fix := [], out := (fun e => (match e with | .exit 0 => ([4], []) | _ => ([], []))), oracle := some (f23_l0_o N) } | _ => none)), mode := (fun d => (match d with  | _ => .app)), exit := [], fork := false, nd := true }
noncomputable def f23_l0_c : Code := (loopAt 0 ((Try.f23.body).getD .ret)).getD .ret
noncomputable def f23_l0_out : Ex → List Nat × List (Tgt × LK S) := fun e => (match e with | .exit 0 => ([4], []) | _ => ([], []))
theorem f23_l0_step {R : Type} (N : Nat) (v2 : List (List Sc × Int × Nat)) (v3 : Nat) (v4 : Nat) (K : Ex → List (TV S) → List (Obj S) → Option R) (rec : List (TV S) → List (Obj S) → Option R) (v1 : Int) (v5 : List Nat) (v6 : Nat) :
    (tcode (E (f23_g N)) (f23_H N) 2 23 N f23_l0_c 0 (mkSt [4, 14] [.int .i64 v1, .ptr 2 0 0] [.box [.map 1], .mapo true [.int .i64, .int .i64] false .int v2 true v3, .iter 1 v4 v5 v6]) (roundK (headOf 2 [4, 14] ([] : List (Tgt × LK S))) (fun e => headOf 2 (f23_l0_out e).1 (f23_l0_out e).2) rec K)) =
    f23_l0_b N v2 v3 v4 (fun y0 => K (.exit 0) [.int .i64 y0] [.box [.map 1], .mapo true [.int .i64, .int .i64] false .int v2 true v3]) (fun v1 v5 v6 => rec [.int .i64 v1, .ptr 2 0 0] [.box [.map 1], .mapo true [.int .i64, .int .i64] false .int v2 true v3, .iter 1 v4 v5 v6]) v1 v5 v6 := by kernel_rfl
theorem f23_l0_ok {R : Type} (N : Nat) (v2 : List (List Sc × Int × Nat)) (v3 : Nat) (v4 : Nat) (K : Ex → List (TV S) → List (Obj S) → Option R) : ∀ (n : Nat) (v1 : Int) (v5 : List Nat) (v6 : Nat),
    loopN (fun vals objs k => tcode (E (f23_g N)) (f23_H N) 2 23 N f23_l0_c 0 (mkSt [4, 14] vals objs) k) (headOf 2 [4, 14] ([] : List (Tgt × LK S))) (fun e => headOf 2 (f23_l0_out e).1 (f23_l0_out e).2) n [.int .i64 v1, .ptr 2 0 0] [.box [.map 1], .mapo true [.int .i64, .int .i64] false .int v2 true v3, .iter 1 v4 v5 v6] K = f23_l0 N v2 v3 v4 (fun y0 => K (.exit 0) [.int .i64 y0] [.box [.map 1], .mapo true [.int .i64, .int .i64] false .int v2 true v3]) n v1 v5 v6 := by
  intro n
  induction n with
  | zero => intros; rfl
  | succ n ih =>
    intro v1 v5 v6
    rw [loopN_succ]
    exact (f23_l0_step N v2 v3 v4 K _ v1 v5 v6).trans (congrArg (fun r => f23_l0_b N v2 v3 v4 (fun y0 => K (.exit 0) [.int .i64 y0] [.box [.map 1], .mapo true [.int .i64, .int .i64] false .int v2 true v3]) r v1 v5 v6) (funext fun v1 => funext fun v5 => funext fun v6 => ih v1 v5 v6))
noncomputable def f23 {R : Type} (N : Nat) (L : List (List Sc × Int × Nat)) (cl : Nat) (k0 : Int → Bool → Option R) : Option R :=
  if (((L.length : Nat) : Int) == 0) = true then
    (k0 0 false)
  else
    (f23_l0 N L cl cl (fun (y9 : Int) =>
    k0 y9 true) N 65536 [] cl)
theorem f23_run {R : Type} (N : Nat) (L : List (List Sc × Int × Nat)) (cl : Nat) (K : Res S → Option R) :
    runFn (E (f23_g N)) (f23_H N) N Try.f23 [.ptr 0 0 0] [.box [.map 1], .mapo true [.int .i64, .int .i64] false .int L true cl] K = f23 N L cl (fun y0 y1 => K ⟨.tup [.int .i64 y0, .bool y1], some [.box [.map 1], .mapo true [.int .i64, .int .i64] false .int L true cl], []⟩) := by kernel_rfl
theorem f23_loops (N : Nat) : ∀ c, Try.f23.body = some c → LoopsOK (E (f23_g N)) (f23_H N) 2 Try.f23.ntmps N c 0 := by
  intro c hc
  have hnt : Try.f23.ntmps = 23 := by kernel_rfl
  rw [hnt]
  have hl : ((Try.f23.body).map fun c => loopsOf c 0) = some [(0, f23_l0_c)] := by kernel_rfl
  rw [hc] at hl
  simp only [Option.map_some, Option.some.injEq] at hl
  refine loopsOK_of c 0 fun p hp h L h1 h2 R vals objs K r hr => ?_
  rw [hl] at hp
  simp only [List.mem_cons, List.not_mem_nil, or_false] at hp
  subst hp
  · cases h1; cases h2
    simp only [f23_l0_o] at hr
    split at hr
    · exact (f23_l0_ok N _ _ _ K N _ _ _).trans hr
    · cases hr

theorem f23_call (N : Nat) (L : List (List Sc × Int × Nat)) (cl : Nat) (k : Res S → Option Unit) (h : runFn (E (f23_g N)) (f23_H N) N Try.f23 [.ptr 0 0 0] [.box [.map 1], .mapo true [.int .i64, .int .i64] false .int L true cl] k = some ()) : CallOKs (E noCalls) 23 [.ptr 0 0 0] [.box [.map 1], .mapo true [.int .i64, .int .i64] false .int L true cl] fun res => k res = some () :=
  unEs (runFn_nd (E_ok (f23_g N)) (f23_g_ok N).callf (f := 23) (fn := Try.f23) (by kernel_rfl) (by kernel_rfl) (f23_loops N) h)

end Wh
