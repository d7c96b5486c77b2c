/- W4: a part of the proof of WheelPlays: lemmas on the evaluator and on the functions that the law reaches. -/
import Derived.Test.YtlagbbfgaanpcaaW3
set_option maxRecDepth 100000
set_option linter.unusedVariables false
namespace Wh
open Go TE Go.Proofs
noncomputable def f41_g (N : Nat) : Callf S := fun f args objs R k => match f with
  | _ => none
theorem f41_g_ok (N : Nat) : TabOK (E noCalls) (f41_g N) := by
  intro f args objs R k r h
  cases h
noncomputable def f41_H (N : Nat) : Hint S := { loops := (fun c => (match c with  | _ => none)), mode := (fun d => (match d with  | _ => .app)), exit := [], fork := false, nd := false }
noncomputable def f41 {R : Type} (N : Nat) (x : Int) (k0 : Bool → Option R) : Option R :=
  k0 (x != x)
theorem f41_run {R : Type} (N : Nat) (x : Int) (K : Res S → Option R) :
    runFn (E (f41_g N)) (f41_H N) N Try.f41 [.int .i64 x] [] K = f41 N x (fun y0 => K ⟨.bool y0, some [], []⟩) := by kernel_rfl
theorem f41_loops (N : Nat) : ∀ c, Try.f41.body = some c → LoopsOK (E (f41_g N)) (f41_H N) 0 Try.f41.ntmps N c 0 :=
  fun c _ => loopsOK_none (fun _ _ h => by cases h) c 0
theorem f41_call (N : Nat) (x : Int) {R : Type} (k : Res S → Option R) (r : R) (h : runFn (E (f41_g N)) (f41_H N) N Try.f41 [.int .i64 x] [] k = some r) : ∃ res, k res = some r ∧ CallOK (E noCalls) 41 [.int .i64 x] [] res := by
  obtain ⟨res, h1, h2⟩ := runFn_sound (E_ok (f41_g N)) (f41_g_ok N).callf rfl (f := 41) (fn := Try.f41) (by kernel_rfl) (by kernel_rfl) (f41_loops N) h
  exact ⟨res, h1, unE h2⟩

noncomputable def e41 (N : Nat) (args : List (TV S)) (objs : List (Obj S)) (R : Type) (k : Res S → Option R) : Option R := match args, objs with
  | [.int .i64 x], [] => f41 N x (fun q0 => k ⟨.bool q0, some [], []⟩)
  | _, _ => none
theorem e41_ok (N : Nat) (args : List (TV S)) (objs : List (Obj S)) (R : Type) (k : Res S → Option R) (r : R) (h : e41 N args objs R k = some r) : ∃ res, k res = some r ∧ CallOK (E noCalls) 41 args objs res := by
  unfold e41 at h
  split at h
  · exact f41_call N _ _ _ ((f41_run N _ _).trans h)
  · cases h

noncomputable def f30_g (N : Nat) : Callf S := fun f args objs R k => match f with
  | 41 => e41 N args objs R k
  | _ => none
theorem f30_g_ok (N : Nat) : TabOK (E noCalls) (f30_g N) := by
  intro f args objs R k r h
  unfold f30_g at h
  split at h
  · exact e41_ok N _ _ _ _ _ h
  · cases h
noncomputable def f30_H (N : Nat) : Hint S := { loops := (fun c => (match c with  | _ => none)), mode := (fun d => (match d with  | _ => .app)), exit := [], fork := false, nd := false }
noncomputable def f30 {R : Type} (N : Nat) (x : Int) (y : Int) (k0 : Int → Option R) : Option R :=
  if (x != x) = true then
    (if (y != y) = true then
      (k0 0)
    else
      (k0 (-1)))
  else
    (if (y != y) = true then
      (k0 1)
    else
      (if (decide (x < y)) = true then
        (k0 (-1))
      else
        (if (decide (x > y)) = true then
          (k0 1)
        else
          (k0 0))))
theorem f30_run {R : Type} (N : Nat) (x : Int) (y : Int) (K : Res S → Option R) :
    runFn (E (f30_g N)) (f30_H N) N Try.f30 [.int .i64 x, .int .i64 y] [] K = f30 N x y (fun y0 => K ⟨.int .i64 y0, some [], []⟩) := by kernel_rfl
theorem f30_loops (N : Nat) : ∀ c, Try.f30.body = some c → LoopsOK (E (f30_g N)) (f30_H N) 0 Try.f30.ntmps N c 0 :=
  fun c _ => loopsOK_none (fun _ _ h => by cases h) c 0
theorem f30_call (N : Nat) (x : Int) (y : Int) {R : Type} (k : Res S → Option R) (r : R) (h : runFn (E (f30_g N)) (f30_H N) N Try.f30 [.int .i64 x, .int .i64 y] [] k = some r) : ∃ res, k res = some r ∧ CallOK (E noCalls) 30 [.int .i64 x, .int .i64 y] [] res := by
  obtain ⟨res, h1, h2⟩ := runFn_sound (E_ok (f30_g N)) (f30_g_ok N).callf rfl (f := 30) (fn := Try.f30) (by kernel_rfl) (by kernel_rfl) (f30_loops N) h
  exact ⟨res, h1, unE h2⟩

noncomputable def f29_g (N : Nat) : Callf S := fun f args objs R k => match f with
  | _ => none
theorem f29_g_ok (N : Nat) : TabOK (E noCalls) (f29_g N) := by
  intro f args objs R k r h
  cases h
noncomputable def f29_l0_b {R : Type} (N : Nat) (v1 : Int) (v2 : List Int) (v3 : Int) (kp0 : Int → Option R) (kp1 : Option R) (rec : Int → Option R) (v4 : Int) : Option R :=
  if (decide (v4 < v3)) = true then
    ((at? v2 v4).bind fun e5 =>
    if (e5 != v1) = true then
      (kp0 e5)
    else
      (rec (IntKind.wrap .i64 (v4 + 1))))
  else
    (kp1 )
noncomputable def f29_l0 {R : Type} (N : Nat) (v1 : Int) (v2 : List Int) (v3 : Int) (kp0 : Int → Option R) (kp1 : Option R) : Nat → Int → Option R
  | 0 => fun _ => none
  | n + 1 => fun v4 => f29_l0_b N v1 v2 v3 kp0 kp1 (f29_l0 N v1 v2 v3 kp0 kp1 n) v4
noncomputable def f29_l0_o (N : Nat) : (R : Type) → List (TV S) → List (Obj S) → (Ex → List (TV S) → List (Obj S) → Option R) → Option R := fun R vals objs K => match vals, objs with
  | [.int .i64 v1, .tree .int v2, .int .i64 v3, .int .i64 v4], [] => f29_l0 N v1 v2 v3 (fun y0 => K .ret [.int .i64 y0] []) (K (.exit 0) [.int .i64 v1] []) N v4
  | _, _ => none
noncomputable def f29_H (N : Nat) : Hint S := { loops := (fun c => (match c with | 0 => some { live := [3, 6, 7, 8], fix := [], out := (fun e => (match e with | .ret => ([2], []) | .exit 0 => ([3], []) | _ => ([], []))), oracle := some (f29_l0_o N) } | _ => none)), mode := (fun d => (match d with  | _ => .app)), exit := [], fork := false, nd := false }
noncomputable def f29_l0_c : Code := (loopAt 0 ((Try.f29.body).getD .ret)).getD .ret
noncomputable def f29_l0_out : Ex → List Nat × List (Tgt × LK S) := fun e => (match e with | .ret => ([2], []) | .exit 0 => ([3], []) | _ => ([], []))
theorem f29_l0_step {R : Type} (N : Nat) (v1 : Int) (v2 : List Int) (v3 : Int) (K : Ex → List (TV S) → List (Obj S) → Option R) (rec : List (TV S) → List (Obj S) → Option R) (v4 : Int) :
    (tcode (E (f29_g N)) (f29_H N) 0 18 N f29_l0_c 0 (mkSt [3, 6, 7, 8] [.int .i64 v1, .tree .int v2, .int .i64 v3, .int .i64 v4] []) (roundK (headOf 0 [3, 6, 7, 8] ([] : List (Tgt × LK S))) (fun e => headOf 0 (f29_l0_out e).1 (f29_l0_out e).2) rec K)) =
    f29_l0_b N v1 v2 v3 (fun y0 => K .ret [.int .i64 y0] []) (K (.exit 0) [.int .i64 v1] []) (fun v4 => rec [.int .i64 v1, .tree .int v2, .int .i64 v3, .int .i64 v4] []) v4 := by kernel_rfl
theorem f29_l0_ok {R : Type} (N : Nat) (v1 : Int) (v2 : List Int) (v3 : Int) (K : Ex → List (TV S) → List (Obj S) → Option R) : ∀ (n : Nat) (v4 : Int),
    loopN (fun vals objs k => tcode (E (f29_g N)) (f29_H N) 0 18 N f29_l0_c 0 (mkSt [3, 6, 7, 8] vals objs) k) (headOf 0 [3, 6, 7, 8] ([] : List (Tgt × LK S))) (fun e => headOf 0 (f29_l0_out e).1 (f29_l0_out e).2) n [.int .i64 v1, .tree .int v2, .int .i64 v3, .int .i64 v4] [] K = f29_l0 N v1 v2 v3 (fun y0 => K .ret [.int .i64 y0] []) (K (.exit 0) [.int .i64 v1] []) n v4 := by
  intro n
  induction n with
  | zero => intros; rfl
  | succ n ih =>
    intro v4
    rw [loopN_succ]
    exact (f29_l0_step N v1 v2 v3 K _ v4).trans (congrArg (fun r => f29_l0_b N v1 v2 v3 (fun y0 => K .ret [.int .i64 y0] []) (K (.exit 0) [.int .i64 v1] []) r v4) (funext fun v4 => ih v4))
noncomputable def f29 {R : Type} (N : Nat) (l : List Int) (k0 : Int → Option R) : Option R :=
  f29_l0 N 0 l ((l.length : Nat) : Int) (fun (y6 : Int) =>
  k0 y6)
    (k0 0) N 0
theorem f29_run {R : Type} (N : Nat) (l : List Int) (K : Res S → Option R) :
    runFn (E (f29_g N)) (f29_H N) N Try.f29 [.tree .int l] [] K = f29 N l (fun y0 => K ⟨.int .i64 y0, some [], []⟩) := by kernel_rfl
theorem f29_loops (N : Nat) : ∀ c, Try.f29.body = some c → LoopsOK (E (f29_g N)) (f29_H N) 0 Try.f29.ntmps N c 0 := by
  intro c hc
  have hnt : Try.f29.ntmps = 18 := by kernel_rfl
  rw [hnt]
  have hl : ((Try.f29.body).map fun c => loopsOf c 0) = some [(0, f29_l0_c)] := by kernel_rfl
  rw [hc] at hl
  simp only [Option.map_some, Option.some.injEq] at hl
  refine loopsOK_of c 0 fun p hp h L h1 h2 R vals objs K r hr => ?_
  rw [hl] at hp
  simp only [List.mem_cons, List.not_mem_nil, or_false] at hp
  subst hp
  · cases h1; cases h2
    simp only [f29_l0_o] at hr
    split at hr
    · exact (f29_l0_ok N _ _ _ K N _).trans hr
    · cases hr

theorem f29_call (N : Nat) (l : List Int) {R : Type} (k : Res S → Option R) (r : R) (h : runFn (E (f29_g N)) (f29_H N) N Try.f29 [.tree .int l] [] k = some r) : ∃ res, k res = some r ∧ CallOK (E noCalls) 29 [.tree .int l] [] res := by
  obtain ⟨res, h1, h2⟩ := runFn_sound (E_ok (f29_g N)) (f29_g_ok N).callf rfl (f := 29) (fn := Try.f29) (by kernel_rfl) (by kernel_rfl) (f29_loops N) h
  exact ⟨res, h1, unE h2⟩

noncomputable def e29 (N : Nat) (args : List (TV S)) (objs : List (Obj S)) (R : Type) (k : Res S → Option R) : Option R := match args, objs with
  | [.tree .int l], [] => f29 N l (fun q0 => k ⟨.int .i64 q0, some [], []⟩)
  | _, _ => none
theorem e29_ok (N : Nat) (args : List (TV S)) (objs : List (Obj S)) (R : Type) (k : Res S → Option R) (r : R) (h : e29 N args objs R k = some r) : ∃ res, k res = some r ∧ CallOK (E noCalls) 29 args objs res := by
  unfold e29 at h
  split at h
  · exact f29_call N _ _ _ ((f29_run N _ _).trans h)
  · cases h

noncomputable def e30 (N : Nat) (args : List (TV S)) (objs : List (Obj S)) (R : Type) (k : Res S → Option R) : Option R := match args, objs with
  | [.int .i64 x, .int .i64 y], [] => f30 N x y (fun q0 => k ⟨.int .i64 q0, some [], []⟩)
  | _, _ => none
theorem e30_ok (N : Nat) (args : List (TV S)) (objs : List (Obj S)) (R : Type) (k : Res S → Option R) (r : R) (h : e30 N args objs R k = some r) : ∃ res, k res = some r ∧ CallOK (E noCalls) 30 args objs res := by
  unfold e30 at h
  split at h
  · exact f30_call N _ _ _ _ ((f30_run N _ _ _).trans h)
  · cases h

noncomputable def f26_g (N : Nat) : Callf S := fun f args objs R k => match f with
  | 29 => e29 N args objs R k
  | 30 => e30 N args objs R k
  | _ => none
theorem f26_g_ok (N : Nat) : TabOK (E noCalls) (f26_g N) := by
  intro f args objs R k r h
  unfold f26_g at h
  split at h
  · exact e29_ok N _ _ _ _ _ h
  · exact e30_ok N _ _ _ _ _ h
  · cases h
noncomputable def f26_H (N : Nat) : Hint S := { loops := (fun c => (match c with  | _ => none)), mode := (fun d => (match d with  | _ => .app)), exit := [], fork := false, nd := false }
noncomputable def f26 {R : Type} (N : Nat) (a : Int) (b : Int) (c : Int) (d : Int) (k0 : Int → Option R) : Option R :=
  f30 N a c (fun (r1 : Int) =>
  f30 N b d (fun (r2 : Int) =>
  f29 N [r1, r2] (fun (r3 : Int) =>
  k0 r3)))
theorem f26_run {R : Type} (N : Nat) (a : Int) (b : Int) (c : Int) (d : Int) (K : Res S → Option R) :
    runFn (E (f26_g N)) (f26_H N) N Try.f26 [.agg [.int .i64 a, .int .i64 b], .agg [.int .i64 c, .int .i64 d]] [] K = f26 N a b c d (fun y0 => K ⟨.int .i64 y0, some [], []⟩) := by kernel_rfl
theorem f26_loops (N : Nat) : ∀ c, Try.f26.body = some c → LoopsOK (E (f26_g N)) (f26_H N) 0 Try.f26.ntmps N c 0 :=
  fun c _ => loopsOK_none (fun _ _ h => by cases h) c 0
theorem f26_call (N : Nat) (a : Int) (b : Int) (c : Int) (d : Int) {R : Type} (k : Res S → Option R) (r : R) (h : runFn (E (f26_g N)) (f26_H N) N Try.f26 [.agg [.int .i64 a, .int .i64 b], .agg [.int .i64 c, .int .i64 d]] [] k = some r) : ∃ res, k res = some r ∧ CallOK (E noCalls) 26 [.agg [.int .i64 a, .int .i64 b], .agg [.int .i64 c, .int .i64 d]] [] res := by
  obtain ⟨res, h1, h2⟩ := runFn_sound (E_ok (f26_g N)) (f26_g_ok N).callf rfl (f := 26) (fn := Try.f26) (by kernel_rfl) (by kernel_rfl) (f26_loops N) h
  exact ⟨res, h1, unE h2⟩

end Wh
