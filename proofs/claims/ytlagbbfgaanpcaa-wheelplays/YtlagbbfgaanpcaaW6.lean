/- W6: a part of the proof of WheelPlays: lemmas on the evaluator and on the functions that the law reaches. -/
import Derived.Test.YtlagbbfgaanpcaaW5b
set_option maxRecDepth 100000
set_option linter.unusedVariables false
namespace Wh
open Go TE Go.Proofs
noncomputable def e25 (N : Nat) (args : List (TV S)) (objs : List (TE.Obj S)) (R : Type) (k : Res S → Option R) : Option R := match args, objs with
  | [.slw 0, .fn 26 []], [.row .fired xs .own] => if xs.length < 4611686018427387904 then k ⟨.tup [], some [.row .fired (srt xs) .own], []⟩ else none
  | _, _ => none
theorem e25_ok (N : Nat) (args : List (TV S)) (objs : List (TE.Obj S)) (R : Type) (k : Res S → Option R) (r : R) (h : e25 N args objs R k = some r) : ∃ res, k res = some r ∧ CallOK (E noCalls) 25 args objs res := by
  unfold e25 at h
  split at h
  · split at h
    · rename_i hl; exact ⟨_, h, c25 _ hl⟩
    · cases h
  · cases h

noncomputable def f10_g (N : Nat) : Callf S := fun f args objs R k => match f with
  | 25 => e25 N args objs R k
  | _ => none
theorem f10_g_ok (N : Nat) : TabOK (E noCalls) (f10_g N) := by
  intro f args objs R k r h
  unfold f10_g at h
  split at h
  · exact e25_ok N _ _ _ _ _ h
  · cases h
noncomputable def f10_l0_b {R : Type} (N : Nat) (v4 : Nat) (kp0 : (List (List Sc × Int × Nat)) → Nat → (List Fired) → Option R) (rec : (List (List Sc × Int × Nat)) → Nat → (List Fired) → (List Nat) → Nat → Option R) (v1 : List (List Sc × Int × Nat)) (v2 : Nat) (v3 : List Fired) (v5 : List Nat) (v6 : Nat) : Option R :=
  nextC v4 v5 v6 v1 (kp0 v1 v2 v3) fun n7 =>
  if v2 = v2 then (match findB n7.2.2 v1 with
  | some en8 => (if (en8.2.1 == 1) = true then
      (if v3.length + [(⟨scI en8.1, scI en8.1.tail⟩ : Fired)].length ≤ maxRow then (rec v1 v2 (v3 ++ [(⟨scI en8.1, scI en8.1.tail⟩ : Fired)]) (n7.2.2 :: v5) v2) else none)
    else
      (rec (updM [.int .i64 (scI en8.1), .int .i64 (scI en8.1.tail)] (IntKind.wrap .i64 (en8.2.1 - 1)) v2 v1) (if (findM [.int .i64 (scI en8.1), .int .i64 (scI en8.1.tail)] v1).isSome = true then v2 else v2 + 1) v3 (n7.2.2 :: v5) v2))
  | none => none) else none
noncomputable def f10_l0 {R : Type} (N : Nat) (v4 : Nat) (kp0 : (List (List Sc × Int × Nat)) → Nat → (List Fired) → Option R) : Nat → (List (List Sc × Int × Nat)) → Nat → (List Fired) → (List Nat) → Nat → Option R
  | 0 => fun _ _ _ _ _ => none
  | n + 1 => fun v1 v2 v3 v5 v6 => f10_l0_b N v4 kp0 (f10_l0 N v4 kp0 n) v1 v2 v3 v5 v6
noncomputable def f10_l2_b {R : Type} (N : Nat) (v12 : Int) (v15 : Nat) (v16 : List Fired) (kp0 : (List (List Sc × Int × Nat)) → Option R) (rec : Int → (List (List Sc × Int × Nat)) → Option R) (v13 : Int) (v14 : List (List Sc × Int × Nat)) : Option R :=
  if (decide (v13 < v12)) = true then
    (if 0 ≤ v13 ∧ v13 < (v16.length : Int) then (match v16[v13.toNat]? with
      | some e17 => (rec (IntKind.wrap .i64 (v13 + 1)) (delM [.int .i64 e17.inst, .int .i64 e17.timer] v14))
      | none => none) else none)
  else
    (kp0 v14)
noncomputable def f10_l2 {R : Type} (N : Nat) (v12 : Int) (v15 : Nat) (v16 : List Fired) (kp0 : (List (List Sc × Int × Nat)) → Option R) : Nat → Int → (List (List Sc × Int × Nat)) → Option R
  | 0 => fun _ _ => none
  | n + 1 => fun v13 v14 => f10_l2_b N v12 v15 v16 kp0 (f10_l2 N v12 v15 v16 kp0 n) v13 v14
noncomputable def f10_l0_o (N : Nat) : (R : Type) → List (TV S) → List (Obj S) → (Ex → List (TV S) → List (Obj S) → Option R) → Option R := fun R vals objs K => match vals, objs with
  | [.ptr 0 0 0, .slw 2, .ptr 3 0 0], [.box [.map 1], .mapo true [.int .i64, .int .i64] false .int v1 true v2, .row .fired v3 .own, .iter 1 v4 v5 v6] => f10_l0 N v4 (fun y0 y1 y2 => K (.exit 0) [.ptr 0 0 0, .slw 2] [.box [.map 1], .mapo true [.int .i64, .int .i64] false .int y0 true y1, .row .fired y2 .own]) N v1 v2 v3 v5 v6
  | _, _ => none
noncomputable def f10_l2_o (N : Nat) : (R : Type) → List (TV S) → List (Obj S) → (Ex → List (TV S) → List (Obj S) → Option R) → Option R := fun R vals objs K => match vals, objs with
  | [.ptr 0 0 0, .slw 2, .slw 2, .int .i64 v12, .int .i64 v13], [.box [.map 1], .mapo true [.int .i64, .int .i64] false .int v14 true v15, .row .fired v16 .own] => f10_l2 N v12 v15 v16 (fun y0 => K (.exit 2) [.slw 2] [.box [.map 1], .mapo true [.int .i64, .int .i64] false .int y0 true v15, .row .fired v16 .own]) N v13 v14
  | _, _ => none
noncomputable def f10_H (N : Nat) : Hint S := { loops := (fun c => (match c with | 0 => some { live := [0, 3, 14], fix := [(⟨3, []⟩, .row .fired .own)], out := (fun e => (match e with | .exit 0 => ([0, 3], []) | _ => ([], []))), oracle := some (f10_l0_o N) } | 2 => some { live := [0, 3, 33, 34, 35], fix := [], out := (fun e => (match e with | .exit 2 => ([3], []) | _ => ([], []))), oracle := some (f10_l2_o N) } | _ => none)), mode := (fun d => (match d with | 24 => .own | 25 => .own | _ => .app)), exit := [(⟨2, []⟩, .tree .fired)], fork := false, nd := true }
noncomputable def f10_l0_c : Code := (loopAt 0 ((Try.f10.body).getD .ret)).getD .ret
noncomputable def f10_l0_out : Ex → List Nat × List (Tgt × LK S) := fun e => (match e with | .exit 0 => ([0, 3], []) | _ => ([], []))
theorem f10_l0_step {R : Type} (N : Nat) (v4 : Nat) (K : Ex → List (TV S) → List (Obj S) → Option R) (rec : List (TV S) → List (Obj S) → Option R) (v1 : List (List Sc × Int × Nat)) (v2 : Nat) (v3 : List Fired) (v5 : List Nat) (v6 : Nat) :
    (tcode (E (f10_g N)) (f10_H N) 2 48 N f10_l0_c 0 (mkSt [0, 3, 14] [.ptr 0 0 0, .slw 2, .ptr 3 0 0] [.box [.map 1], .mapo true [.int .i64, .int .i64] false .int v1 true v2, .row .fired v3 .own, .iter 1 v4 v5 v6]) (roundK (headOf 2 [0, 3, 14] ([(⟨3, []⟩, .row .fired .own)] : List (Tgt × LK S))) (fun e => headOf 2 (f10_l0_out e).1 (f10_l0_out e).2) rec K)) =
    f10_l0_b N v4 (fun y0 y1 y2 => K (.exit 0) [.ptr 0 0 0, .slw 2] [.box [.map 1], .mapo true [.int .i64, .int .i64] false .int y0 true y1, .row .fired y2 .own]) (fun v1 v2 v3 v5 v6 => rec [.ptr 0 0 0, .slw 2, .ptr 3 0 0] [.box [.map 1], .mapo true [.int .i64, .int .i64] false .int v1 true v2, .row .fired v3 .own, .iter 1 v4 v5 v6]) v1 v2 v3 v5 v6 := by kernel_rfl
theorem f10_l0_ok {R : Type} (N : Nat) (v4 : Nat) (K : Ex → List (TV S) → List (Obj S) → Option R) : ∀ (n : Nat) (v1 : List (List Sc × Int × Nat)) (v2 : Nat) (v3 : List Fired) (v5 : List Nat) (v6 : Nat),
    loopN (fun vals objs k => tcode (E (f10_g N)) (f10_H N) 2 48 N f10_l0_c 0 (mkSt [0, 3, 14] vals objs) k) (headOf 2 [0, 3, 14] ([(⟨3, []⟩, .row .fired .own)] : List (Tgt × LK S))) (fun e => headOf 2 (f10_l0_out e).1 (f10_l0_out e).2) n [.ptr 0 0 0, .slw 2, .ptr 3 0 0] [.box [.map 1], .mapo true [.int .i64, .int .i64] false .int v1 true v2, .row .fired v3 .own, .iter 1 v4 v5 v6] K = f10_l0 N v4 (fun y0 y1 y2 => K (.exit 0) [.ptr 0 0 0, .slw 2] [.box [.map 1], .mapo true [.int .i64, .int .i64] false .int y0 true y1, .row .fired y2 .own]) n v1 v2 v3 v5 v6 := by
  intro n
  induction n with
  | zero => intros; rfl
  | succ n ih =>
    intro v1 v2 v3 v5 v6
    rw [loopN_succ]
    exact (f10_l0_step N v4 K _ v1 v2 v3 v5 v6).trans (congrArg (fun r => f10_l0_b N v4 (fun y0 y1 y2 => K (.exit 0) [.ptr 0 0 0, .slw 2] [.box [.map 1], .mapo true [.int .i64, .int .i64] false .int y0 true y1, .row .fired y2 .own]) r v1 v2 v3 v5 v6) (funext fun v1 => funext fun v2 => funext fun v3 => funext fun v5 => funext fun v6 => ih v1 v2 v3 v5 v6))
noncomputable def f10_l2_c : Code := (loopAt 2 ((Try.f10.body).getD .ret)).getD .ret
noncomputable def f10_l2_out : Ex → List Nat × List (Tgt × LK S) := fun e => (match e with | .exit 2 => ([3], []) | _ => ([], []))
theorem f10_l2_step {R : Type} (N : Nat) (v12 : Int) (v15 : Nat) (v16 : List Fired) (K : Ex → List (TV S) → List (Obj S) → Option R) (rec : List (TV S) → List (Obj S) → Option R) (v13 : Int) (v14 : List (List Sc × Int × Nat)) :
    (tcode (E (f10_g N)) (f10_H N) 2 48 N f10_l2_c 2 (mkSt [0, 3, 33, 34, 35] [.ptr 0 0 0, .slw 2, .slw 2, .int .i64 v12, .int .i64 v13] [.box [.map 1], .mapo true [.int .i64, .int .i64] false .int v14 true v15, .row .fired v16 .own]) (roundK (headOf 2 [0, 3, 33, 34, 35] ([] : List (Tgt × LK S))) (fun e => headOf 2 (f10_l2_out e).1 (f10_l2_out e).2) rec K)) =
    f10_l2_b N v12 v15 v16 (fun y0 => K (.exit 2) [.slw 2] [.box [.map 1], .mapo true [.int .i64, .int .i64] false .int y0 true v15, .row .fired v16 .own]) (fun v13 v14 => rec [.ptr 0 0 0, .slw 2, .slw 2, .int .i64 v12, .int .i64 v13] [.box [.map 1], .mapo true [.int .i64, .int .i64] false .int v14 true v15, .row .fired v16 .own]) v13 v14 := by kernel_rfl
theorem f10_l2_ok {R : Type} (N : Nat) (v12 : Int) (v15 : Nat) (v16 : List Fired) (K : Ex → List (TV S) → List (Obj S) → Option R) : ∀ (n : Nat) (v13 : Int) (v14 : List (List Sc × Int × Nat)),
    loopN (fun vals objs k => tcode (E (f10_g N)) (f10_H N) 2 48 N f10_l2_c 2 (mkSt [0, 3, 33, 34, 35] vals objs) k) (headOf 2 [0, 3, 33, 34, 35] ([] : List (Tgt × LK S))) (fun e => headOf 2 (f10_l2_out e).1 (f10_l2_out e).2) n [.ptr 0 0 0, .slw 2, .slw 2, .int .i64 v12, .int .i64 v13] [.box [.map 1], .mapo true [.int .i64, .int .i64] false .int v14 true v15, .row .fired v16 .own] K = f10_l2 N v12 v15 v16 (fun y0 => K (.exit 2) [.slw 2] [.box [.map 1], .mapo true [.int .i64, .int .i64] false .int y0 true v15, .row .fired v16 .own]) n v13 v14 := by
  intro n
  induction n with
  | zero => intros; rfl
  | succ n ih =>
    intro v13 v14
    rw [loopN_succ]
    exact (f10_l2_step N v12 v15 v16 K _ v13 v14).trans (congrArg (fun r => f10_l2_b N v12 v15 v16 (fun y0 => K (.exit 2) [.slw 2] [.box [.map 1], .mapo true [.int .i64, .int .i64] false .int y0 true v15, .row .fired v16 .own]) r v13 v14) (funext fun v13 => funext fun v14 => ih v13 v14))
noncomputable def f10 {R : Type} (N : Nat) (L : List (List Sc × Int × Nat)) (cl : Nat) (k0 : (List Fired) → (List (List Sc × Int × Nat)) → Nat → Option R) : Option R :=
  f10_l0 N cl (fun (y9 : List (List Sc × Int × Nat)) (y10 : Nat) (y11 : List Fired) =>
  f10_l2 N ((y11.length : Nat) : Int) y10 y11 (fun (y18 : List (List Sc × Int × Nat)) =>
    if y11.length < 4611686018427387904 then (k0 (srt y11) y18 y10) else none) N 0 y9) N L cl ([] : List Fired) [] cl
theorem f10_run {R : Type} (N : Nat) (L : List (List Sc × Int × Nat)) (cl : Nat) (K : Res S → Option R) :
    runFn (E (f10_g N)) (f10_H N) N Try.f10 [.ptr 0 0 0] [.box [.map 1], .mapo true [.int .i64, .int .i64] false .int L true cl] K = f10 N L cl (fun y0 y1 y2 => K ⟨.tree .fired y0, some [.box [.map 1], .mapo true [.int .i64, .int .i64] false .int y1 true y2], []⟩) := by kernel_rfl
theorem f10_loops (N : Nat) : ∀ c, Try.f10.body = some c → LoopsOK (E (f10_g N)) (f10_H N) 2 Try.f10.ntmps N c 0 := by
  intro c hc
  have hnt : Try.f10.ntmps = 48 := by kernel_rfl
  rw [hnt]
  have hl : ((Try.f10.body).map fun c => loopsOf c 0) = some [(0, f10_l0_c), (2, f10_l2_c)] := by kernel_rfl
  rw [hc] at hl
  simp only [Option.map_some, Option.some.injEq] at hl
  refine loopsOK_of c 0 fun p hp h L h1 h2 R vals objs K r hr => ?_
  rw [hl] at hp
  simp only [List.mem_cons, List.not_mem_nil, or_false] at hp
  rcases hp with rfl | rfl
  · cases h1; cases h2
    simp only [f10_l0_o] at hr
    split at hr
    · exact (f10_l0_ok N _ K N _ _ _ _ _).trans hr
    · cases hr
  · cases h1; cases h2
    simp only [f10_l2_o] at hr
    split at hr
    · exact (f10_l2_ok N _ _ _ K N _ _).trans hr
    · cases hr

theorem f10_call (N : Nat) (L : List (List Sc × Int × Nat)) (cl : Nat) (k : Res S → Option Unit) (h : runFn (E (f10_g N)) (f10_H N) N Try.f10 [.ptr 0 0 0] [.box [.map 1], .mapo true [.int .i64, .int .i64] false .int L true cl] k = some ()) : CallOKs (E noCalls) 10 [.ptr 0 0 0] [.box [.map 1], .mapo true [.int .i64, .int .i64] false .int L true cl] fun res => k res = some () :=
  unEs (runFn_nd (E_ok (f10_g N)) (f10_g_ok N).callf (f := 10) (fn := Try.f10) (by kernel_rfl) (by kernel_rfl) (f10_loops N) h)

end Wh
