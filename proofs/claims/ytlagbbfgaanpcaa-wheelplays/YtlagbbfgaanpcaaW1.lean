/- W1: a part of the proof of WheelPlays: lemmas on the evaluator and on the functions that the law reaches. -/
import Derived.Test.YtlagbbfgaanpcaaWB
set_option maxRecDepth 100000
set_option linter.unusedVariables false
namespace Wh
open Go TE Go.Proofs
noncomputable def f13_g (N : Nat) : Callf S := fun f args objs R k => match f with
  | _ => none
theorem f13_g_ok (N : Nat) : TabOK (E noCalls) (f13_g N) := by
  intro f args objs R k r h
  cases h
noncomputable def f13_H (N : Nat) : Hint S := { loops := (fun c => (match c with  | _ => none)), mode := (fun d => (match d with  | _ => .app)), exit := [], fork := false, nd := false }
noncomputable def f13 {R : Type} (N : Nat) (a : Int) (b : Int) (c : Int) (d : Int) (k0 : Bool → Option R) : Option R :=
  (ifB (decide (a < c)) false ((ifB (a == c) true (some (decide (b < d))) (some false)).bind fun c1 =>
  some c1) (some true)).bind fun c2 =>
  k0 c2
theorem f13_run {R : Type} (N : Nat) (a : Int) (b : Int) (c : Int) (d : Int) (K : Res S → Option R) :
    runFn (E (f13_g N)) (f13_H N) N Try.f13 [.agg [.int .i64 a, .int .i64 b], .agg [.int .i64 c, .int .i64 d]] [] K = f13 N a b c d (fun y0 => K ⟨.bool y0, some [], []⟩) := by kernel_rfl
theorem f13_loops (N : Nat) : ∀ c, Try.f13.body = some c → LoopsOK (E (f13_g N)) (f13_H N) 0 Try.f13.ntmps N c 0 :=
  fun c _ => loopsOK_none (fun _ _ h => by cases h) c 0
theorem f13_call (N : Nat) (a : Int) (b : Int) (c : Int) (d : Int) {R : Type} (k : Res S → Option R) (r : R) (h : runFn (E (f13_g N)) (f13_H N) N Try.f13 [.agg [.int .i64 a, .int .i64 b], .agg [.int .i64 c, .int .i64 d]] [] k = some r) : ∃ res, k res = some r ∧ CallOK (E noCalls) 13 [.agg [.int .i64 a, .int .i64 b], .agg [.int .i64 c, .int .i64 d]] [] res := by
  obtain ⟨res, h1, h2⟩ := runFn_sound (E_ok (f13_g N)) (f13_g_ok N).callf rfl (f := 13) (fn := Try.f13) (by kernel_rfl) (by kernel_rfl) (f13_loops N) h
  exact ⟨res, h1, unE h2⟩

noncomputable def f15_g (N : Nat) : Callf S := fun f args objs R k => match f with
  | _ => none
theorem f15_g_ok (N : Nat) : TabOK (E noCalls) (f15_g N) := by
  intro f args objs R k r h
  cases h
noncomputable def f15_l0_b {R : Type} (N : Nat) (v1 : List Fired) (v2 : List Fired) (kp0 : Bool → Option R) (kp1 : Option R) (rec : Int → Option R) (v3 : Int) : Option R :=
  if (decide (v3 < ((v1.length : Nat) : Int))) = true then
    ((at? v1 v3).bind fun e4 =>
    (at? v2 v3).bind fun e5 =>
    if (!((e4.inst == e5.inst) && ((e4.timer == e5.timer) && true))) = true then
      (kp0 false)
    else
      (rec (IntKind.wrap .i64 (v3 + 1))))
  else
    (kp1 )
noncomputable def f15_l0 {R : Type} (N : Nat) (v1 : List Fired) (v2 : List Fired) (kp0 : Bool → Option R) (kp1 : Option R) : Nat → Int → Option R
  | 0 => fun _ => none
  | n + 1 => fun v3 => f15_l0_b N v1 v2 kp0 kp1 (f15_l0 N v1 v2 kp0 kp1 n) v3
noncomputable def f15_l0_o (N : Nat) : (R : Type) → List (TV S) → List (Obj S) → (Ex → List (TV S) → List (Obj S) → Option R) → Option R := fun R vals objs K => match vals, objs with
  | [.tree .fired v1, .tree .fired v2, .int .i64 v3], [] => f15_l0 N v1 v2 (fun y0 => K .ret [.bool y0] []) (K (.exit 0) [] []) N v3
  | _, _ => none
noncomputable def f15_H (N : Nat) : Hint S := { loops := (fun c => (match c with | 0 => some { live := [0, 1, 5], fix := [], out := (fun e => (match e with | .ret => ([4], []) | .exit 0 => ([], []) | _ => ([], []))), oracle := some (f15_l0_o N) } | _ => none)), mode := (fun d => (match d with  | _ => .app)), exit := [], fork := false, nd := false }
noncomputable def f15_l0_c : Code := (loopAt 0 ((Try.f15.body).getD .ret)).getD .ret
noncomputable def f15_l0_out : Ex → List Nat × List (Tgt × LK S) := fun e => (match e with | .ret => ([4], []) | .exit 0 => ([], []) | _ => ([], []))
theorem f15_l0_step {R : Type} (N : Nat) (v1 : List Fired) (v2 : List Fired) (K : Ex → List (TV S) → List (Obj S) → Option R) (rec : List (TV S) → List (Obj S) → Option R) (v3 : Int) :
    (tcode (E (f15_g N)) (f15_H N) 0 26 N f15_l0_c 0 (mkSt [0, 1, 5] [.tree .fired v1, .tree .fired v2, .int .i64 v3] []) (roundK (headOf 0 [0, 1, 5] ([] : List (Tgt × LK S))) (fun e => headOf 0 (f15_l0_out e).1 (f15_l0_out e).2) rec K)) =
    f15_l0_b N v1 v2 (fun y0 => K .ret [.bool y0] []) (K (.exit 0) [] []) (fun v3 => rec [.tree .fired v1, .tree .fired v2, .int .i64 v3] []) v3 := by kernel_rfl
theorem f15_l0_ok {R : Type} (N : Nat) (v1 : List Fired) (v2 : List Fired) (K : Ex → List (TV S) → List (Obj S) → Option R) : ∀ (n : Nat) (v3 : Int),
    loopN (fun vals objs k => tcode (E (f15_g N)) (f15_H N) 0 26 N f15_l0_c 0 (mkSt [0, 1, 5] vals objs) k) (headOf 0 [0, 1, 5] ([] : List (Tgt × LK S))) (fun e => headOf 0 (f15_l0_out e).1 (f15_l0_out e).2) n [.tree .fired v1, .tree .fired v2, .int .i64 v3] [] K = f15_l0 N v1 v2 (fun y0 => K .ret [.bool y0] []) (K (.exit 0) [] []) n v3 := by
  intro n
  induction n with
  | zero => intros; rfl
  | succ n ih =>
    intro v3
    rw [loopN_succ]
    exact (f15_l0_step N v1 v2 K _ v3).trans (congrArg (fun r => f15_l0_b N v1 v2 (fun y0 => K .ret [.bool y0] []) (K (.exit 0) [] []) r v3) (funext fun v3 => ih v3))
noncomputable def f15 {R : Type} (N : Nat) (x : List Fired) (y : List Fired) (k0 : Bool → Option R) : Option R :=
  if (((x.length : Nat) : Int) != ((y.length : Nat) : Int)) = true then
    (k0 false)
  else
    (f15_l0 N x y (fun (y6 : Bool) =>
    k0 y6)
      (k0 true) N 0)
theorem f15_run {R : Type} (N : Nat) (x : List Fired) (y : List Fired) (K : Res S → Option R) :
    runFn (E (f15_g N)) (f15_H N) N Try.f15 [.tree .fired x, .tree .fired y] [] K = f15 N x y (fun y0 => K ⟨.bool y0, some [], []⟩) := by kernel_rfl
theorem f15_loops (N : Nat) : ∀ c, Try.f15.body = some c → LoopsOK (E (f15_g N)) (f15_H N) 0 Try.f15.ntmps N c 0 := by
  intro c hc
  have hnt : Try.f15.ntmps = 26 := by kernel_rfl
  rw [hnt]
  have hl : ((Try.f15.body).map fun c => loopsOf c 0) = some [(0, f15_l0_c)] := by kernel_rfl
  rw [hc] at hl
  simp only [Option.map_some, Option.some.injEq] at hl
  refine loopsOK_of c 0 fun p hp h L h1 h2 R vals objs K r hr => ?_
  rw [hl] at hp
  simp only [List.mem_cons, List.not_mem_nil, or_false] at hp
  subst hp
  · cases h1; cases h2
    simp only [f15_l0_o] at hr
    split at hr
    · exact (f15_l0_ok N _ _ K N _).trans hr
    · cases hr

theorem f15_call (N : Nat) (x : List Fired) (y : List Fired) {R : Type} (k : Res S → Option R) (r : R) (h : runFn (E (f15_g N)) (f15_H N) N Try.f15 [.tree .fired x, .tree .fired y] [] k = some r) : ∃ res, k res = some r ∧ CallOK (E noCalls) 15 [.tree .fired x, .tree .fired y] [] res := by
  obtain ⟨res, h1, h2⟩ := runFn_sound (E_ok (f15_g N)) (f15_g_ok N).callf rfl (f := 15) (fn := Try.f15) (by kernel_rfl) (by kernel_rfl) (f15_loops N) h
  exact ⟨res, h1, unE h2⟩

noncomputable def f8_g (N : Nat) : Callf S := fun f args objs R k => match f with
  | _ => none
theorem f8_g_ok (N : Nat) : TabOK (E noCalls) (f8_g N) := by
  intro f args objs R k r h
  cases h
noncomputable def f8_H (N : Nat) : Hint S := { loops := (fun c => (match c with  | _ => none)), mode := (fun d => (match d with  | _ => .app)), exit := [], fork := false, nd := false }
noncomputable def f8 {R : Type} (N : Nat)  (k0 : (List (List Sc × Int × Nat)) → Bool → Nat → Option R) : Option R :=
  k0 [] true 0
theorem f8_run {R : Type} (N : Nat)  (K : Res S → Option R) :
    runFn (E (f8_g N)) (f8_H N) N Try.f8 [] [] K = f8 N  (fun y0 y1 y2 => K ⟨.ptr 0 0 0, some [], [.box [.map 1], .mapo true [.int .i64, .int .i64] false .int y0 y1 y2]⟩) := by kernel_rfl
theorem f8_loops (N : Nat) : ∀ c, Try.f8.body = some c → LoopsOK (E (f8_g N)) (f8_H N) 0 Try.f8.ntmps N c 0 :=
  fun c _ => loopsOK_none (fun _ _ h => by cases h) c 0
theorem f8_call (N : Nat)  {R : Type} (k : Res S → Option R) (r : R) (h : runFn (E (f8_g N)) (f8_H N) N Try.f8 [] [] k = some r) : ∃ res, k res = some r ∧ CallOK (E noCalls) 8 [] [] res := by
  obtain ⟨res, h1, h2⟩ := runFn_sound (E_ok (f8_g N)) (f8_g_ok N).callf rfl (f := 8) (fn := Try.f8) (by kernel_rfl) (by kernel_rfl) (f8_loops N) h
  exact ⟨res, h1, unE h2⟩

noncomputable def f11_g (N : Nat) : Callf S := fun f args objs R k => match f with
  | _ => none
theorem f11_g_ok (N : Nat) : TabOK (E noCalls) (f11_g N) := by
  intro f args objs R k r h
  cases h
noncomputable def f11_H (N : Nat) : Hint S := { loops := (fun c => (match c with  | _ => none)), mode := (fun d => (match d with  | _ => .app)), exit := [], fork := false, nd := false }
noncomputable def f11 {R : Type} (N : Nat) (L : List (List Sc × Int × Nat)) (ex : Bool) (cl : Nat) (k0 : Int → Option R) : Option R :=
  k0 ((L.length : Nat) : Int)
theorem f11_run {R : Type} (N : Nat) (L : List (List Sc × Int × Nat)) (ex : Bool) (cl : Nat) (K : Res S → Option R) :
    runFn (E (f11_g N)) (f11_H N) N Try.f11 [.ptr 0 0 0] [.box [.map 1], .mapo true [.int .i64, .int .i64] false .int L ex cl] K = f11 N L ex cl (fun y0 => K ⟨.int .i64 y0, some [.box [.map 1], .mapo true [.int .i64, .int .i64] false .int L ex cl], []⟩) := by kernel_rfl
theorem f11_loops (N : Nat) : ∀ c, Try.f11.body = some c → LoopsOK (E (f11_g N)) (f11_H N) 2 Try.f11.ntmps N c 0 :=
  fun c _ => loopsOK_none (fun _ _ h => by cases h) c 0
theorem f11_call (N : Nat) (L : List (List Sc × Int × Nat)) (ex : Bool) (cl : Nat) {R : Type} (k : Res S → Option R) (r : R) (h : runFn (E (f11_g N)) (f11_H N) N Try.f11 [.ptr 0 0 0] [.box [.map 1], .mapo true [.int .i64, .int .i64] false .int L ex cl] k = some r) : ∃ res, k res = some r ∧ CallOK (E noCalls) 11 [.ptr 0 0 0] [.box [.map 1], .mapo true [.int .i64, .int .i64] false .int L ex cl] res := by
  obtain ⟨res, h1, h2⟩ := runFn_sound (E_ok (f11_g N)) (f11_g_ok N).callf rfl (f := 11) (fn := Try.f11) (by kernel_rfl) (by kernel_rfl) (f11_loops N) h
  exact ⟨res, h1, unE h2⟩

noncomputable def f11n_g (N : Nat) : Callf S := fun f args objs R k => match f with
  | _ => none
theorem f11n_g_ok (N : Nat) : TabOK (E noCalls) (f11n_g N) := by
  intro f args objs R k r h
  cases h
noncomputable def f11n_H (N : Nat) : Hint S := { loops := (fun c => (match c with  | _ => none)), mode := (fun d => (match d with  | _ => .app)), exit := [], fork := false, nd := false }
noncomputable def f11n {R : Type} (N : Nat)  (k0 : Int → Option R) : Option R :=
  k0 0
theorem f11n_run {R : Type} (N : Nat)  (K : Res S → Option R) :
    runFn (E (f11n_g N)) (f11n_H N) N Try.f11 [.nilp] [] K = f11n N  (fun y0 => K ⟨.int .i64 y0, some [], []⟩) := by kernel_rfl
theorem f11n_loops (N : Nat) : ∀ c, Try.f11.body = some c → LoopsOK (E (f11n_g N)) (f11n_H N) 0 Try.f11.ntmps N c 0 :=
  fun c _ => loopsOK_none (fun _ _ h => by cases h) c 0
theorem f11n_call (N : Nat)  {R : Type} (k : Res S → Option R) (r : R) (h : runFn (E (f11n_g N)) (f11n_H N) N Try.f11 [.nilp] [] k = some r) : ∃ res, k res = some r ∧ CallOK (E noCalls) 11 [.nilp] [] res := by
  obtain ⟨res, h1, h2⟩ := runFn_sound (E_ok (f11n_g N)) (f11n_g_ok N).callf rfl (f := 11) (fn := Try.f11) (by kernel_rfl) (by kernel_rfl) (f11n_loops N) h
  exact ⟨res, h1, unE h2⟩

noncomputable def f9_g (N : Nat) : Callf S := fun f args objs R k => match f with
  | _ => none
theorem f9_g_ok (N : Nat) : TabOK (E noCalls) (f9_g N) := by
  intro f args objs R k r h
  cases h
noncomputable def f9_H (N : Nat) : Hint S := { loops := (fun c => (match c with  | _ => none)), mode := (fun d => (match d with  | _ => .app)), exit := [], fork := false, nd := false }
noncomputable def f9 {R : Type} (N : Nat) (a : Int) (b : Int) (n : Int) (L : List (List Sc × Int × Nat)) (ex : Bool) (cl : Nat) (k0 : Int → (List (List Sc × Int × Nat)) → Nat → Option R) : Option R :=
  (ifB (decide (a < 0)) false (some (decide (b < 0))) (some true)).bind fun c2 =>
  (ifB c2 false (some (decide (n < 1))) (some true)).bind fun c3 =>
  (ifB c3 false (some (decide (n > 65536))) (some true)).bind fun c4 =>
  if c4 = true then
    (k0 1 L cl)
  else
    (k0 0 (updM [.int .i64 a, .int .i64 b] n cl L) (if (findM [.int .i64 a, .int .i64 b] L).isSome = true then cl else cl + 1))
theorem f9_run {R : Type} (N : Nat) (a : Int) (b : Int) (n : Int) (L : List (List Sc × Int × Nat)) (ex : Bool) (cl : Nat) (K : Res S → Option R) :
    runFn (E (f9_g N)) (f9_H N) N Try.f9 [.ptr 0 0 0, .agg [.int .i64 a, .int .i64 b], .int .i64 n] [.box [.map 1], .mapo true [.int .i64, .int .i64] false .int L ex cl] K = f9 N a b n L ex cl (fun y0 y1 y2 => K ⟨.int .i64 y0, some [.box [.map 1], .mapo true [.int .i64, .int .i64] false .int y1 ex y2], []⟩) := by kernel_rfl
theorem f9_loops (N : Nat) : ∀ c, Try.f9.body = some c → LoopsOK (E (f9_g N)) (f9_H N) 2 Try.f9.ntmps N c 0 :=
  fun c _ => loopsOK_none (fun _ _ h => by cases h) c 0
theorem f9_call (N : Nat) (a : Int) (b : Int) (n : Int) (L : List (List Sc × Int × Nat)) (ex : Bool) (cl : Nat) {R : Type} (k : Res S → Option R) (r : R) (h : runFn (E (f9_g N)) (f9_H N) N Try.f9 [.ptr 0 0 0, .agg [.int .i64 a, .int .i64 b], .int .i64 n] [.box [.map 1], .mapo true [.int .i64, .int .i64] false .int L ex cl] k = some r) : ∃ res, k res = some r ∧ CallOK (E noCalls) 9 [.ptr 0 0 0, .agg [.int .i64 a, .int .i64 b], .int .i64 n] [.box [.map 1], .mapo true [.int .i64, .int .i64] false .int L ex cl] res := by
  obtain ⟨res, h1, h2⟩ := runFn_sound (E_ok (f9_g N)) (f9_g_ok N).callf rfl (f := 9) (fn := Try.f9) (by kernel_rfl) (by kernel_rfl) (f9_loops N) h
  exact ⟨res, h1, unE h2⟩

noncomputable def f9n_g (N : Nat) : Callf S := fun f args objs R k => match f with
  | _ => none
theorem f9n_g_ok (N : Nat) : TabOK (E noCalls) (f9n_g N) := by
  intro f args objs R k r h
  cases h
noncomputable def f9n_H (N : Nat) : Hint S := { loops := (fun c => (match c with  | _ => none)), mode := (fun d => (match d with  | _ => .app)), exit := [], fork := false, nd := false }
noncomputable def f9n {R : Type} (N : Nat) (a : Int) (b : Int) (n : Int) (k0 : Int → Option R) : Option R :=
  k0 1
theorem f9n_run {R : Type} (N : Nat) (a : Int) (b : Int) (n : Int) (K : Res S → Option R) :
    runFn (E (f9n_g N)) (f9n_H N) N Try.f9 [.nilp, .agg [.int .i64 a, .int .i64 b], .int .i64 n] [] K = f9n N a b n (fun y0 => K ⟨.int .i64 y0, some [], []⟩) := by kernel_rfl
theorem f9n_loops (N : Nat) : ∀ c, Try.f9.body = some c → LoopsOK (E (f9n_g N)) (f9n_H N) 0 Try.f9.ntmps N c 0 :=
  fun c _ => loopsOK_none (fun _ _ h => by cases h) c 0
theorem f9n_call (N : Nat) (a : Int) (b : Int) (n : Int) {R : Type} (k : Res S → Option R) (r : R) (h : runFn (E (f9n_g N)) (f9n_H N) N Try.f9 [.nilp, .agg [.int .i64 a, .int .i64 b], .int .i64 n] [] k = some r) : ∃ res, k res = some r ∧ CallOK (E noCalls) 9 [.nilp, .agg [.int .i64 a, .int .i64 b], .int .i64 n] [] res := by
  obtain ⟨res, h1, h2⟩ := runFn_sound (E_ok (f9n_g N)) (f9n_g_ok N).callf rfl (f := 9) (fn := Try.f9) (by kernel_rfl) (by kernel_rfl) (f9n_loops N) h
  exact ⟨res, h1, unE h2⟩

noncomputable def f21_g (N : Nat) : Callf S := fun f args objs R k => match f with
  | _ => none
theorem f21_g_ok (N : Nat) : TabOK (E noCalls) (f21_g N) := by
  intro f args objs R k r h
  cases h
noncomputable def f21_H (N : Nat) : Hint S := { loops := (fun c => (match c with  | _ => none)), mode := (fun d => (match d with  | _ => .app)), exit := [], fork := false, nd := false }
noncomputable def f21 {R : Type} (N : Nat) (a : Int) (b : Int) (L : List (List Sc × Int × Nat)) (ex : Bool) (cl : Nat) (k0 : Int → Bool → Option R) : Option R :=
  k0 ((findM [.int .i64 a, .int .i64 b] L).getD 0) ((findM [.int .i64 a, .int .i64 b] L).isSome)
theorem f21_run {R : Type} (N : Nat) (a : Int) (b : Int) (L : List (List Sc × Int × Nat)) (ex : Bool) (cl : Nat) (K : Res S → Option R) :
    runFn (E (f21_g N)) (f21_H N) N Try.f21 [.ptr 0 0 0, .agg [.int .i64 a, .int .i64 b]] [.box [.map 1], .mapo true [.int .i64, .int .i64] false .int L ex cl] K = f21 N a b L ex cl (fun y0 y1 => K ⟨.tup [.int .i64 y0, .bool y1], some [.box [.map 1], .mapo true [.int .i64, .int .i64] false .int L ex cl], []⟩) := by kernel_rfl
theorem f21_loops (N : Nat) : ∀ c, Try.f21.body = some c → LoopsOK (E (f21_g N)) (f21_H N) 2 Try.f21.ntmps N c 0 :=
  fun c _ => loopsOK_none (fun _ _ h => by cases h) c 0
theorem f21_call (N : Nat) (a : Int) (b : Int) (L : List (List Sc × Int × Nat)) (ex : Bool) (cl : Nat) {R : Type} (k : Res S → Option R) (r : R) (h : runFn (E (f21_g N)) (f21_H N) N Try.f21 [.ptr 0 0 0, .agg [.int .i64 a, .int .i64 b]] [.box [.map 1], .mapo true [.int .i64, .int .i64] false .int L ex cl] k = some r) : ∃ res, k res = some r ∧ CallOK (E noCalls) 21 [.ptr 0 0 0, .agg [.int .i64 a, .int .i64 b]] [.box [.map 1], .mapo true [.int .i64, .int .i64] false .int L ex cl] res := by
  obtain ⟨res, h1, h2⟩ := runFn_sound (E_ok (f21_g N)) (f21_g_ok N).callf rfl (f := 21) (fn := Try.f21) (by kernel_rfl) (by kernel_rfl) (f21_loops N) h
  exact ⟨res, h1, unE h2⟩

noncomputable def f21n_g (N : Nat) : Callf S := fun f args objs R k => match f with
  | _ => none
theorem f21n_g_ok (N : Nat) : TabOK (E noCalls) (f21n_g N) := by
  intro f args objs R k r h
  cases h
noncomputable def f21n_H (N : Nat) : Hint S := { loops := (fun c => (match c with  | _ => none)), mode := (fun d => (match d with  | _ => .app)), exit := [], fork := false, nd := false }
noncomputable def f21n {R : Type} (N : Nat) (a : Int) (b : Int) (k0 : Int → Bool → Option R) : Option R :=
  k0 0 false
theorem f21n_run {R : Type} (N : Nat) (a : Int) (b : Int) (K : Res S → Option R) :
    runFn (E (f21n_g N)) (f21n_H N) N Try.f21 [.nilp, .agg [.int .i64 a, .int .i64 b]] [] K = f21n N a b (fun y0 y1 => K ⟨.tup [.int .i64 y0, .bool y1], some [], []⟩) := by kernel_rfl
theorem f21n_loops (N : Nat) : ∀ c, Try.f21.body = some c → LoopsOK (E (f21n_g N)) (f21n_H N) 0 Try.f21.ntmps N c 0 :=
  fun c _ => loopsOK_none (fun _ _ h => by cases h) c 0
theorem f21n_call (N : Nat) (a : Int) (b : Int) {R : Type} (k : Res S → Option R) (r : R) (h : runFn (E (f21n_g N)) (f21n_H N) N Try.f21 [.nilp, .agg [.int .i64 a, .int .i64 b]] [] k = some r) : ∃ res, k res = some r ∧ CallOK (E noCalls) 21 [.nilp, .agg [.int .i64 a, .int .i64 b]] [] res := by
  obtain ⟨res, h1, h2⟩ := runFn_sound (E_ok (f21n_g N)) (f21n_g_ok N).callf rfl (f := 21) (fn := Try.f21) (by kernel_rfl) (by kernel_rfl) (f21n_loops N) h
  exact ⟨res, h1, unE h2⟩

noncomputable def e21 (N : Nat) (args : List (TV S)) (objs : List (Obj S)) (R : Type) (k : Res S → Option R) : Option R := match args, objs with
  | [.ptr 0 0 0, .agg [.int .i64 a, .int .i64 b]], [.box [.map 1], .mapo true [.int .i64, .int .i64] false .int L ex cl] => f21 N a b L ex cl (fun q0 q1 => k ⟨.tup [.int .i64 q0, .bool q1], none, []⟩)
  | [.nilp, .agg [.int .i64 a, .int .i64 b]], [] => f21n N a b (fun q0 q1 => k ⟨.tup [.int .i64 q0, .bool q1], some [], []⟩)
  | _, _ => none
theorem e21_ok (N : Nat) (args : List (TV S)) (objs : List (Obj S)) (R : Type) (k : Res S → Option R) (r : R) (h : e21 N args objs R k = some r) : ∃ res, k res = some r ∧ CallOK (E noCalls) 21 args objs res := by
  unfold e21 at h
  split at h
  · rename_i a b L ex cl
    obtain ⟨res, h1, h2⟩ := f21_call N a b L ex cl (quietK _ k) r ((f21_run N a b L ex cl _).trans ((congrArg (f21 (R := R) N a b L ex cl) (show (fun q0 q1 => quietK (S := S) [.box [.map 1], .mapo true [.int .i64, .int .i64] false .int L ex cl] k ⟨.tup [.int .i64 q0, .bool q1], some [.box [.map 1], .mapo true [.int .i64, .int .i64] false .int L ex cl], []⟩) = (fun q0 q1 => k ⟨.tup [.int .i64 q0, .bool q1], none, []⟩) from funext fun _ => funext fun _ => quietK_eq _ _ _ _)).trans h))
    exact quiet_ok h1 h2
  · exact f21n_call N _ _ _ _ ((f21n_run N _ _ _).trans h)
  · cases h

noncomputable def f17_g (N : Nat) : Callf S := fun f args objs R k => match f with
  | 21 => e21 N args objs R k
  | _ => none
theorem f17_g_ok (N : Nat) : TabOK (E noCalls) (f17_g N) := by
  intro f args objs R k r h
  unfold f17_g at h
  split at h
  · exact e21_ok N _ _ _ _ _ h
  · cases h
noncomputable def f17_H (N : Nat) : Hint S := { loops := (fun c => (match c with  | _ => none)), mode := (fun d => (match d with  | _ => .app)), exit := [], fork := false, nd := false }
noncomputable def f17 {R : Type} (N : Nat) (a : Int) (b : Int) (L : List (List Sc × Int × Nat)) (ex : Bool) (cl : Nat) (k0 : Bool → (List (List Sc × Int × Nat)) → Option R) : Option R :=
  if ((findM [.int .i64 a, .int .i64 b] L).isSome) = true then
    (k0 ((findM [.int .i64 a, .int .i64 b] L).isSome) (delM [.int .i64 a, .int .i64 b] L))
  else
    (k0 ((findM [.int .i64 a, .int .i64 b] L).isSome) L)
theorem f17_run {R : Type} (N : Nat) (a : Int) (b : Int) (L : List (List Sc × Int × Nat)) (ex : Bool) (cl : Nat) (K : Res S → Option R) :
    runFn (E (f17_g N)) (f17_H N) N Try.f17 [.ptr 0 0 0, .agg [.int .i64 a, .int .i64 b]] [.box [.map 1], .mapo true [.int .i64, .int .i64] false .int L ex cl] K = f17 N a b L ex cl (fun y0 y1 => K ⟨.bool y0, some [.box [.map 1], .mapo true [.int .i64, .int .i64] false .int y1 ex cl], []⟩) := by kernel_rfl
theorem f17_loops (N : Nat) : ∀ c, Try.f17.body = some c → LoopsOK (E (f17_g N)) (f17_H N) 2 Try.f17.ntmps N c 0 :=
  fun c _ => loopsOK_none (fun _ _ h => by cases h) c 0
theorem f17_call (N : Nat) (a : Int) (b : Int) (L : List (List Sc × Int × Nat)) (ex : Bool) (cl : Nat) {R : Type} (k : Res S → Option R) (r : R) (h : runFn (E (f17_g N)) (f17_H N) N Try.f17 [.ptr 0 0 0, .agg [.int .i64 a, .int .i64 b]] [.box [.map 1], .mapo true [.int .i64, .int .i64] false .int L ex cl] k = some r) : ∃ res, k res = some r ∧ CallOK (E noCalls) 17 [.ptr 0 0 0, .agg [.int .i64 a, .int .i64 b]] [.box [.map 1], .mapo true [.int .i64, .int .i64] false .int L ex cl] res := by
  obtain ⟨res, h1, h2⟩ := runFn_sound (E_ok (f17_g N)) (f17_g_ok N).callf rfl (f := 17) (fn := Try.f17) (by kernel_rfl) (by kernel_rfl) (f17_loops N) h
  exact ⟨res, h1, unE h2⟩

noncomputable def f17n_g (N : Nat) : Callf S := fun f args objs R k => match f with
  | 21 => e21 N args objs R k
  | _ => none
theorem f17n_g_ok (N : Nat) : TabOK (E noCalls) (f17n_g N) := by
  intro f args objs R k r h
  unfold f17n_g at h
  split at h
  · exact e21_ok N _ _ _ _ _ h
  · cases h
noncomputable def f17n_H (N : Nat) : Hint S := { loops := (fun c => (match c with  | _ => none)), mode := (fun d => (match d with  | _ => .app)), exit := [], fork := false, nd := false }
noncomputable def f17n {R : Type} (N : Nat) (a : Int) (b : Int) (k0 : Bool → Option R) : Option R :=
  k0 false
theorem f17n_run {R : Type} (N : Nat) (a : Int) (b : Int) (K : Res S → Option R) :
    runFn (E (f17n_g N)) (f17n_H N) N Try.f17 [.nilp, .agg [.int .i64 a, .int .i64 b]] [] K = f17n N a b (fun y0 => K ⟨.bool y0, some [], []⟩) := by kernel_rfl
theorem f17n_loops (N : Nat) : ∀ c, Try.f17.body = some c → LoopsOK (E (f17n_g N)) (f17n_H N) 0 Try.f17.ntmps N c 0 :=
  fun c _ => loopsOK_none (fun _ _ h => by cases h) c 0
theorem f17n_call (N : Nat) (a : Int) (b : Int) {R : Type} (k : Res S → Option R) (r : R) (h : runFn (E (f17n_g N)) (f17n_H N) N Try.f17 [.nilp, .agg [.int .i64 a, .int .i64 b]] [] k = some r) : ∃ res, k res = some r ∧ CallOK (E noCalls) 17 [.nilp, .agg [.int .i64 a, .int .i64 b]] [] res := by
  obtain ⟨res, h1, h2⟩ := runFn_sound (E_ok (f17n_g N)) (f17n_g_ok N).callf rfl (f := 17) (fn := Try.f17) (by kernel_rfl) (by kernel_rfl) (f17n_loops N) h
  exact ⟨res, h1, unE h2⟩

noncomputable def f10n_g (N : Nat) : Callf S := fun f args objs R k => match f with
  | _ => none
theorem f10n_g_ok (N : Nat) : TabOK (E noCalls) (f10n_g N) := by
  intro f args objs R k r h
  cases h
noncomputable def f10n_H (N : Nat) : Hint S := { loops := (fun c => (match c with  | _ => none)), mode := (fun d => (match d with  | _ => .app)), exit := [(⟨2, []⟩, .tree .fired)], fork := false, nd := false }
noncomputable def f10n {R : Type} (N : Nat)  (k0 : (List Fired) → Option R) : Option R :=
  k0 ([] : List Fired)
theorem f10n_run {R : Type} (N : Nat)  (K : Res S → Option R) :
    runFn (E (f10n_g N)) (f10n_H N) N Try.f10 [.nilp] [] K = f10n N  (fun y0 => K ⟨.tree .fired y0, some [], []⟩) := by kernel_rfl
theorem f10n_loops (N : Nat) : ∀ c, Try.f10.body = some c → LoopsOK (E (f10n_g N)) (f10n_H N) 0 Try.f10.ntmps N c 0 :=
  fun c _ => loopsOK_none (fun _ _ h => by cases h) c 0
theorem f10n_call (N : Nat)  {R : Type} (k : Res S → Option R) (r : R) (h : runFn (E (f10n_g N)) (f10n_H N) N Try.f10 [.nilp] [] k = some r) : ∃ res, k res = some r ∧ CallOK (E noCalls) 10 [.nilp] [] res := by
  obtain ⟨res, h1, h2⟩ := runFn_sound (E_ok (f10n_g N)) (f10n_g_ok N).callf rfl (f := 10) (fn := Try.f10) (by kernel_rfl) (by kernel_rfl) (f10n_loops N) h
  exact ⟨res, h1, unE h2⟩

noncomputable def e11 (N : Nat) (args : List (TV S)) (objs : List (Obj S)) (R : Type) (k : Res S → Option R) : Option R := match args, objs with
  | [.ptr 0 0 0], [.box [.map 1], .mapo true [.int .i64, .int .i64] false .int L ex cl] => f11 N L ex cl (fun q0 => k ⟨.int .i64 q0, none, []⟩)
  | [.nilp], [] => f11n N  (fun q0 => k ⟨.int .i64 q0, some [], []⟩)
  | _, _ => none
theorem e11_ok (N : Nat) (args : List (TV S)) (objs : List (Obj S)) (R : Type) (k : Res S → Option R) (r : R) (h : e11 N args objs R k = some r) : ∃ res, k res = some r ∧ CallOK (E noCalls) 11 args objs res := by
  unfold e11 at h
  split at h
  · rename_i L ex cl
    obtain ⟨res, h1, h2⟩ := f11_call N L ex cl (quietK _ k) r ((f11_run N L ex cl _).trans ((congrArg (f11 (R := R) N L ex cl) (show (fun q0 => quietK (S := S) [.box [.map 1], .mapo true [.int .i64, .int .i64] false .int L ex cl] k ⟨.int .i64 q0, some [.box [.map 1], .mapo true [.int .i64, .int .i64] false .int L ex cl], []⟩) = (fun q0 => k ⟨.int .i64 q0, none, []⟩) from funext fun _ => quietK_eq _ _ _ _)).trans h))
    exact quiet_ok h1 h2
  · exact f11n_call N  _ _ ((f11n_run N  _).trans h)
  · cases h

noncomputable def f14n_g (N : Nat) : Callf S := fun f args objs R k => match f with
  | 11 => e11 N args objs R k
  | _ => none
theorem f14n_g_ok (N : Nat) : TabOK (E noCalls) (f14n_g N) := by
  intro f args objs R k r h
  unfold f14n_g at h
  split at h
  · exact e11_ok N _ _ _ _ _ h
  · cases h
noncomputable def f14n_H (N : Nat) : Hint S := { loops := (fun c => (match c with  | _ => none)), mode := (fun d => (match d with  | _ => .app)), exit := [], fork := false, nd := false }
noncomputable def f14n {R : Type} (N : Nat) (i : Int) (k0 : Int → Option R) : Option R :=
  k0 (IntKind.wrap .i64 (0 - 0))
theorem f14n_run {R : Type} (N : Nat) (i : Int) (K : Res S → Option R) :
    runFn (E (f14n_g N)) (f14n_H N) N Try.f14 [.nilp, .int .i64 i] [] K = f14n N i (fun y0 => K ⟨.int .i64 y0, some [], []⟩) := by kernel_rfl
theorem f14n_loops (N : Nat) : ∀ c, Try.f14.body = some c → LoopsOK (E (f14n_g N)) (f14n_H N) 0 Try.f14.ntmps N c 0 :=
  fun c _ => loopsOK_none (fun _ _ h => by cases h) c 0
theorem f14n_call (N : Nat) (i : Int) {R : Type} (k : Res S → Option R) (r : R) (h : runFn (E (f14n_g N)) (f14n_H N) N Try.f14 [.nilp, .int .i64 i] [] k = some r) : ∃ res, k res = some r ∧ CallOK (E noCalls) 14 [.nilp, .int .i64 i] [] res := by
  obtain ⟨res, h1, h2⟩ := runFn_sound (E_ok (f14n_g N)) (f14n_g_ok N).callf rfl (f := 14) (fn := Try.f14) (by kernel_rfl) (by kernel_rfl) (f14n_loops N) h
  exact ⟨res, h1, unE h2⟩

noncomputable def f23n_g (N : Nat) : Callf S := fun f args objs R k => match f with
  | 11 => e11 N args objs R k
  | _ => none
theorem f23n_g_ok (N : Nat) : TabOK (E noCalls) (f23n_g N) := by
  intro f args objs R k r h
  unfold f23n_g at h
  split at h
  · exact e11_ok N _ _ _ _ _ h
  · cases h
noncomputable def f23n_H (N : Nat) : Hint S := { loops := (fun c => (match c with  | _ => none)), mode := (fun d => (match d with  | _ => .app)), exit := [], fork := false, nd := false }
noncomputable def f23n {R : Type} (N : Nat)  (k0 : Int → Bool → Option R) : Option R :=
  k0 0 false
theorem f23n_run {R : Type} (N : Nat)  (K : Res S → Option R) :
    runFn (E (f23n_g N)) (f23n_H N) N Try.f23 [.nilp] [] K = f23n N  (fun y0 y1 => K ⟨.tup [.int .i64 y0, .bool y1], some [], []⟩) := by kernel_rfl
theorem f23n_loops (N : Nat) : ∀ c, Try.f23.body = some c → LoopsOK (E (f23n_g N)) (f23n_H N) 0 Try.f23.ntmps N c 0 :=
  fun c _ => loopsOK_none (fun _ _ h => by cases h) c 0
theorem f23n_call (N : Nat)  {R : Type} (k : Res S → Option R) (r : R) (h : runFn (E (f23n_g N)) (f23n_H N) N Try.f23 [.nilp] [] k = some r) : ∃ res, k res = some r ∧ CallOK (E noCalls) 23 [.nilp] [] res := by
  obtain ⟨res, h1, h2⟩ := runFn_sound (E_ok (f23n_g N)) (f23n_g_ok N).callf rfl (f := 23) (fn := Try.f23) (by kernel_rfl) (by kernel_rfl) (f23n_loops N) h
  exact ⟨res, h1, unE h2⟩

noncomputable def f22_g (N : Nat) : Callf S := fun f args objs R k => match f with
  | _ => none
theorem f22_g_ok (N : Nat) : TabOK (E noCalls) (f22_g N) := by
  intro f args objs R k r h
  cases h
noncomputable def f22_l0_b {R : Type} (N : Nat) (v2 : List Timer) (v3 : Int) (v4 : Int) (kp0 : Int → Bool → Option R) (kp1 : Option R) (rec : Int → Option R) (v1 : Int) : Option R :=
  if (decide (v1 < ((v2.length : Nat) : Int))) = true then
    ((at? v2 v1).bind fun e5 =>
    if ((e5.f.inst == v3) && ((e5.f.timer == v4) && true)) = true then
      ((at? v2 v1).bind fun e6 =>
      kp0 e6.left true)
    else
      (rec (IntKind.wrap .i64 (v1 + 1))))
  else
    (kp1 )
noncomputable def f22_l0 {R : Type} (N : Nat) (v2 : List Timer) (v3 : Int) (v4 : Int) (kp0 : Int → Bool → Option R) (kp1 : Option R) : Nat → Int → Option R
  | 0 => fun _ => none
  | n + 1 => fun v1 => f22_l0_b N v2 v3 v4 kp0 kp1 (f22_l0 N v2 v3 v4 kp0 kp1 n) v1
noncomputable def f22_l0_o (N : Nat) : (R : Type) → List (TV S) → List (Obj S) → (Ex → List (TV S) → List (Obj S) → Option R) → Option R := fun R vals objs K => match vals, objs with
  | [.ptr 0 0 0, .ptr 1 0 0, .int .i64 v1], [.box [.tree .timer v2], .box [.int .i64 v3, .int .i64 v4]] => f22_l0 N v2 v3 v4 (fun y0 y1 => K .ret [.int .i64 y0, .bool y1] [.box [.tree .timer v2]]) (K (.exit 0) [] [.box [.tree .timer v2]]) N v1
  | _, _ => none
noncomputable def f22_H (N : Nat) : Hint S := { loops := (fun c => (match c with | 0 => some { live := [0, 3, 6], fix := [], out := (fun e => (match e with | .ret => ([4, 5], []) | .exit 0 => ([], []) | _ => ([], []))), oracle := some (f22_l0_o N) } | _ => none)), mode := (fun d => (match d with  | _ => .app)), exit := [], fork := false, nd := false }
noncomputable def f22_l0_c : Code := (loopAt 0 ((Try.f22.body).getD .ret)).getD .ret
noncomputable def f22_l0_out : Ex → List Nat × List (Tgt × LK S) := fun e => (match e with | .ret => ([4, 5], []) | .exit 0 => ([], []) | _ => ([], []))
theorem f22_l0_step {R : Type} (N : Nat) (v2 : List Timer) (v3 : Int) (v4 : Int) (K : Ex → List (TV S) → List (Obj S) → Option R) (rec : List (TV S) → List (Obj S) → Option R) (v1 : Int) :
    (tcode (E (f22_g N)) (f22_H N) 1 34 N f22_l0_c 0 (mkSt [0, 3, 6] [.ptr 0 0 0, .ptr 1 0 0, .int .i64 v1] [.box [.tree .timer v2], .box [.int .i64 v3, .int .i64 v4]]) (roundK (headOf 1 [0, 3, 6] ([] : List (Tgt × LK S))) (fun e => headOf 1 (f22_l0_out e).1 (f22_l0_out e).2) rec K)) =
    f22_l0_b N v2 v3 v4 (fun y0 y1 => K .ret [.int .i64 y0, .bool y1] [.box [.tree .timer v2]]) (K (.exit 0) [] [.box [.tree .timer v2]]) (fun v1 => rec [.ptr 0 0 0, .ptr 1 0 0, .int .i64 v1] [.box [.tree .timer v2], .box [.int .i64 v3, .int .i64 v4]]) v1 := by kernel_rfl
theorem f22_l0_ok {R : Type} (N : Nat) (v2 : List Timer) (v3 : Int) (v4 : Int) (K : Ex → List (TV S) → List (Obj S) → Option R) : ∀ (n : Nat) (v1 : Int),
    loopN (fun vals objs k => tcode (E (f22_g N)) (f22_H N) 1 34 N f22_l0_c 0 (mkSt [0, 3, 6] vals objs) k) (headOf 1 [0, 3, 6] ([] : List (Tgt × LK S))) (fun e => headOf 1 (f22_l0_out e).1 (f22_l0_out e).2) n [.ptr 0 0 0, .ptr 1 0 0, .int .i64 v1] [.box [.tree .timer v2], .box [.int .i64 v3, .int .i64 v4]] K = f22_l0 N v2 v3 v4 (fun y0 y1 => K .ret [.int .i64 y0, .bool y1] [.box [.tree .timer v2]]) (K (.exit 0) [] [.box [.tree .timer v2]]) n v1 := by
  intro n
  induction n with
  | zero => intros; rfl
  | succ n ih =>
    intro v1
    rw [loopN_succ]
    exact (f22_l0_step N v2 v3 v4 K _ v1).trans (congrArg (fun r => f22_l0_b N v2 v3 v4 (fun y0 y1 => K .ret [.int .i64 y0, .bool y1] [.box [.tree .timer v2]]) (K (.exit 0) [] [.box [.tree .timer v2]]) r v1) (funext fun v1 => ih v1))
noncomputable def f22 {R : Type} (N : Nat) (a : Int) (b : Int) (l : List Timer) (k0 : Int → Bool → Option R) : Option R :=
  f22_l0 N l a b (fun (y7 : Int) (y8 : Bool) =>
  k0 y7 y8)
    (k0 0 false) N 0
theorem f22_run {R : Type} (N : Nat) (a : Int) (b : Int) (l : List Timer) (K : Res S → Option R) :
    runFn (E (f22_g N)) (f22_H N) N Try.f22 [.ptr 0 0 0, .agg [.int .i64 a, .int .i64 b]] [.box [.tree .timer l]] K = f22 N a b l (fun y0 y1 => K ⟨.tup [.int .i64 y0, .bool y1], some [.box [.tree .timer l]], []⟩) := by kernel_rfl
theorem f22_loops (N : Nat) : ∀ c, Try.f22.body = some c → LoopsOK (E (f22_g N)) (f22_H N) 1 Try.f22.ntmps N c 0 := by
  intro c hc
  have hnt : Try.f22.ntmps = 34 := by kernel_rfl
  rw [hnt]
  have hl : ((Try.f22.body).map fun c => loopsOf c 0) = some [(0, f22_l0_c)] := by kernel_rfl
  rw [hc] at hl
  simp only [Option.map_some, Option.some.injEq] at hl
  refine loopsOK_of c 0 fun p hp h L h1 h2 R vals objs K r hr => ?_
  rw [hl] at hp
  simp only [List.mem_cons, List.not_mem_nil, or_false] at hp
  subst hp
  · cases h1; cases h2
    simp only [f22_l0_o] at hr
    split at hr
    · exact (f22_l0_ok N _ _ _ K N _).trans hr
    · cases hr

theorem f22_call (N : Nat) (a : Int) (b : Int) (l : List Timer) {R : Type} (k : Res S → Option R) (r : R) (h : runFn (E (f22_g N)) (f22_H N) N Try.f22 [.ptr 0 0 0, .agg [.int .i64 a, .int .i64 b]] [.box [.tree .timer l]] k = some r) : ∃ res, k res = some r ∧ CallOK (E noCalls) 22 [.ptr 0 0 0, .agg [.int .i64 a, .int .i64 b]] [.box [.tree .timer l]] res := by
  obtain ⟨res, h1, h2⟩ := runFn_sound (E_ok (f22_g N)) (f22_g_ok N).callf rfl (f := 22) (fn := Try.f22) (by kernel_rfl) (by kernel_rfl) (f22_loops N) h
  exact ⟨res, h1, unE h2⟩

noncomputable def f18_g (N : Nat) : Callf S := fun f args objs R k => match f with
  | _ => none
theorem f18_g_ok (N : Nat) : TabOK (E noCalls) (f18_g N) := by
  intro f args objs R k r h
  cases h
noncomputable def f18_l0_b {R : Type} (N : Nat) (v8 : List Timer) (v9 : Int) (v10 : Int) (kp0 : (List Timer) → Option R) (rec : Int → (List Timer) → Option R) (v7 : Int) (v11 : List Timer) : Option R :=
  if (decide (v7 < ((v8.length : Nat) : Int))) = true then
    ((at? v8 v7).bind fun e12 =>
    if (!((e12.f.inst == v9) && ((e12.f.timer == v10) && true))) = true then
      ((at? v8 v7).bind fun e13 =>
      if v11.length + [e13].length ≤ maxRow then (rec (IntKind.wrap .i64 (v7 + 1)) (v11 ++ [e13])) else none)
    else
      (rec (IntKind.wrap .i64 (v7 + 1)) v11))
  else
    (kp0 v11)
noncomputable def f18_l0 {R : Type} (N : Nat) (v8 : List Timer) (v9 : Int) (v10 : Int) (kp0 : (List Timer) → Option R) : Nat → Int → (List Timer) → Option R
  | 0 => fun _ _ => none
  | n + 1 => fun v7 v11 => f18_l0_b N v8 v9 v10 kp0 (f18_l0 N v8 v9 v10 kp0 n) v7 v11
noncomputable def f18_l0_o (N : Nat) : (R : Type) → List (TV S) → List (Obj S) → (Ex → List (TV S) → List (Obj S) → Option R) → Option R := fun R vals objs K => match vals, objs with
  | [.ptr 0 0 0, .ptr 1 0 0, .slw 2, .int .i64 v7], [.box [.tree .timer v8], .box [.int .i64 v9, .int .i64 v10], .row .timer v11 .app] => f18_l0 N v8 v9 v10 (fun y0 => K (.exit 0) [.ptr 0 0 0, .slw 1] [.box [.tree .timer v8], .row .timer y0 .app]) N v7 v11
  | _, _ => none
noncomputable def f18_H (N : Nat) : Hint S := { loops := (fun c => (match c with | 0 => some { live := [0, 3, 5, 6], fix := [(⟨5, []⟩, .row .timer .app)], out := (fun e => (match e with | .exit 0 => ([0, 5], []) | _ => ([], []))), oracle := some (f18_l0_o N) } | _ => none)), mode := (fun d => (match d with  | _ => .app)), exit := [(⟨0, [0]⟩, .tree .timer)], fork := false, nd := false }
noncomputable def f18_l0_c : Code := (loopAt 0 ((Try.f18.body).getD .ret)).getD .ret
noncomputable def f18_l0_out : Ex → List Nat × List (Tgt × LK S) := fun e => (match e with | .exit 0 => ([0, 5], []) | _ => ([], []))
theorem f18_l0_step {R : Type} (N : Nat) (v8 : List Timer) (v9 : Int) (v10 : Int) (K : Ex → List (TV S) → List (Obj S) → Option R) (rec : List (TV S) → List (Obj S) → Option R) (v7 : Int) (v11 : List Timer) :
    (tcode (E (f18_g N)) (f18_H N) 1 50 N f18_l0_c 0 (mkSt [0, 3, 5, 6] [.ptr 0 0 0, .ptr 1 0 0, .slw 2, .int .i64 v7] [.box [.tree .timer v8], .box [.int .i64 v9, .int .i64 v10], .row .timer v11 .app]) (roundK (headOf 1 [0, 3, 5, 6] ([(⟨5, []⟩, .row .timer .app)] : List (Tgt × LK S))) (fun e => headOf 1 (f18_l0_out e).1 (f18_l0_out e).2) rec K)) =
    f18_l0_b N v8 v9 v10 (fun y0 => K (.exit 0) [.ptr 0 0 0, .slw 1] [.box [.tree .timer v8], .row .timer y0 .app]) (fun v7 v11 => rec [.ptr 0 0 0, .ptr 1 0 0, .slw 2, .int .i64 v7] [.box [.tree .timer v8], .box [.int .i64 v9, .int .i64 v10], .row .timer v11 .app]) v7 v11 := by kernel_rfl
theorem f18_l0_ok {R : Type} (N : Nat) (v8 : List Timer) (v9 : Int) (v10 : Int) (K : Ex → List (TV S) → List (Obj S) → Option R) : ∀ (n : Nat) (v7 : Int) (v11 : List Timer),
    loopN (fun vals objs k => tcode (E (f18_g N)) (f18_H N) 1 50 N f18_l0_c 0 (mkSt [0, 3, 5, 6] vals objs) k) (headOf 1 [0, 3, 5, 6] ([(⟨5, []⟩, .row .timer .app)] : List (Tgt × LK S))) (fun e => headOf 1 (f18_l0_out e).1 (f18_l0_out e).2) n [.ptr 0 0 0, .ptr 1 0 0, .slw 2, .int .i64 v7] [.box [.tree .timer v8], .box [.int .i64 v9, .int .i64 v10], .row .timer v11 .app] K = f18_l0 N v8 v9 v10 (fun y0 => K (.exit 0) [.ptr 0 0 0, .slw 1] [.box [.tree .timer v8], .row .timer y0 .app]) n v7 v11 := by
  intro n
  induction n with
  | zero => intros; rfl
  | succ n ih =>
    intro v7 v11
    rw [loopN_succ]
    exact (f18_l0_step N v8 v9 v10 K _ v7 v11).trans (congrArg (fun r => f18_l0_b N v8 v9 v10 (fun y0 => K (.exit 0) [.ptr 0 0 0, .slw 1] [.box [.tree .timer v8], .row .timer y0 .app]) r v7 v11) (funext fun v7 => funext fun v11 => ih v7 v11))
noncomputable def f18 {R : Type} (N : Nat) (a : Int) (b : Int) (l : List Timer) (k0 : Bool → (List Timer) → Option R) : Option R :=
  f18_l0 N l a b (fun (y14 : List Timer) =>
  k0 (decide (((y14.length : Nat) : Int) < ((l.length : Nat) : Int))) y14) N 0 ([] : List Timer)
theorem f18_run {R : Type} (N : Nat) (a : Int) (b : Int) (l : List Timer) (K : Res S → Option R) :
    runFn (E (f18_g N)) (f18_H N) N Try.f18 [.ptr 0 0 0, .agg [.int .i64 a, .int .i64 b]] [.box [.tree .timer l]] K = f18 N a b l (fun y0 y1 => K ⟨.bool y0, some [.box [.tree .timer y1]], []⟩) := by kernel_rfl
theorem f18_loops (N : Nat) : ∀ c, Try.f18.body = some c → LoopsOK (E (f18_g N)) (f18_H N) 1 Try.f18.ntmps N c 0 := by
  intro c hc
  have hnt : Try.f18.ntmps = 50 := by kernel_rfl
  rw [hnt]
  have hl : ((Try.f18.body).map fun c => loopsOf c 0) = some [(0, f18_l0_c)] := by kernel_rfl
  rw [hc] at hl
  simp only [Option.map_some, Option.some.injEq] at hl
  refine loopsOK_of c 0 fun p hp h L h1 h2 R vals objs K r hr => ?_
  rw [hl] at hp
  simp only [List.mem_cons, List.not_mem_nil, or_false] at hp
  subst hp
  · cases h1; cases h2
    simp only [f18_l0_o] at hr
    split at hr
    · exact (f18_l0_ok N _ _ _ K N _ _).trans hr
    · cases hr

theorem f18_call (N : Nat) (a : Int) (b : Int) (l : List Timer) {R : Type} (k : Res S → Option R) (r : R) (h : runFn (E (f18_g N)) (f18_H N) N Try.f18 [.ptr 0 0 0, .agg [.int .i64 a, .int .i64 b]] [.box [.tree .timer l]] k = some r) : ∃ res, k res = some r ∧ CallOK (E noCalls) 18 [.ptr 0 0 0, .agg [.int .i64 a, .int .i64 b]] [.box [.tree .timer l]] res := by
  obtain ⟨res, h1, h2⟩ := runFn_sound (E_ok (f18_g N)) (f18_g_ok N).callf rfl (f := 18) (fn := Try.f18) (by kernel_rfl) (by kernel_rfl) (f18_loops N) h
  exact ⟨res, h1, unE h2⟩

noncomputable def e13 (N : Nat) (args : List (TV S)) (objs : List (Obj S)) (R : Type) (k : Res S → Option R) : Option R := match args, objs with
  | [.agg [.int .i64 a, .int .i64 b], .agg [.int .i64 c, .int .i64 d]], [] => f13 N a b c d (fun q0 => k ⟨.bool q0, some [], []⟩)
  | _, _ => none
theorem e13_ok (N : Nat) (args : List (TV S)) (objs : List (Obj S)) (R : Type) (k : Res S → Option R) (r : R) (h : e13 N args objs R k = some r) : ∃ res, k res = some r ∧ CallOK (E noCalls) 13 args objs res := by
  unfold e13 at h
  split at h
  · exact f13_call N _ _ _ _ _ _ ((f13_run N _ _ _ _ _).trans h)
  · cases h

noncomputable def e18 (N : Nat) (args : List (TV S)) (objs : List (Obj S)) (R : Type) (k : Res S → Option R) : Option R := match args, objs with
  | [.ptr 0 0 0, .agg [.int .i64 a, .int .i64 b]], [.box [.tree .timer l]] => f18 N a b l (fun q0 q1 => k ⟨.bool q0, some [.box [.tree .timer q1]], []⟩)
  | _, _ => none
theorem e18_ok (N : Nat) (args : List (TV S)) (objs : List (Obj S)) (R : Type) (k : Res S → Option R) (r : R) (h : e18 N args objs R k = some r) : ∃ res, k res = some r ∧ CallOK (E noCalls) 18 args objs res := by
  unfold e18 at h
  split at h
  · exact f18_call N _ _ _ _ _ ((f18_run N _ _ _ _).trans h)
  · cases h

noncomputable def f16_g (N : Nat) : Callf S := fun f args objs R k => match f with
  | 13 => e13 N args objs R k
  | 18 => e18 N args objs R k
  | _ => none
theorem f16_g_ok (N : Nat) : TabOK (E noCalls) (f16_g N) := by
  intro f args objs R k r h
  unfold f16_g at h
  split at h
  · exact e13_ok N _ _ _ _ _ h
  · exact e18_ok N _ _ _ _ _ h
  · cases h
noncomputable def f16_l0_b {R : Type} (N : Nat) (v16 : Int) (v19 : List Timer) (v20 : Int) (v21 : Int) (kp0 : Bool → (List Timer) → Option R) (rec : Bool → Int → (List Timer) → Option R) (v17 : Bool) (v18 : Int) (v22 : List Timer) : Option R :=
  if (decide (v18 < ((v19.length : Nat) : Int))) = true then
    ((ifB (!v17) true ((at? v19 v18).bind fun e23 =>
    f13 N v20 v21 e23.f.inst e23.f.timer (fun (r24 : Bool) =>
    some r24)) (some false)).bind fun c25 =>
    if c25 = true then
      (if v22.length + [(⟨(⟨v20, v21⟩ : Fired), v16⟩ : Timer)].length ≤ maxRow then ((at? v19 v18).bind fun e26 =>
        if (v22 ++ [(⟨(⟨v20, v21⟩ : Fired), v16⟩ : Timer)]).length + [e26].length ≤ maxRow then (rec true (IntKind.wrap .i64 (v18 + 1)) ((v22 ++ [(⟨(⟨v20, v21⟩ : Fired), v16⟩ : Timer)]) ++ [e26])) else none) else none)
    else
      ((at? v19 v18).bind fun e27 =>
      if v22.length + [e27].length ≤ maxRow then (rec v17 (IntKind.wrap .i64 (v18 + 1)) (v22 ++ [e27])) else none))
  else
    (kp0 v17 v22)
noncomputable def f16_l0 {R : Type} (N : Nat) (v16 : Int) (v19 : List Timer) (v20 : Int) (v21 : Int) (kp0 : Bool → (List Timer) → Option R) : Nat → Bool → Int → (List Timer) → Option R
  | 0 => fun _ _ _ => none
  | n + 1 => fun v17 v18 v22 => f16_l0_b N v16 v19 v20 v21 kp0 (f16_l0 N v16 v19 v20 v21 kp0 n) v17 v18 v22
noncomputable def f16_l0_o (N : Nat) : (R : Type) → List (TV S) → List (Obj S) → (Ex → List (TV S) → List (Obj S) → Option R) → Option R := fun R vals objs K => match vals, objs with
  | [.ptr 0 0 0, .int .i64 v16, .ptr 1 0 0, .slw 2, .bool v17, .int .i64 v18], [.box [.tree .timer v19], .box [.int .i64 v20, .int .i64 v21], .row .timer v22 .app] => f16_l0 N v16 v19 v20 v21 (fun y0 y1 => K (.exit 0) [.ptr 0 0 0, .int .i64 v16, .ptr 1 0 0, .slw 2, .bool y0] [.box [.tree .timer v19], .box [.int .i64 v20, .int .i64 v21], .row .timer y1 .app]) N v17 v18 v22
  | _, _ => none
noncomputable def f16_H (N : Nat) : Hint S := { loops := (fun c => (match c with | 0 => some { live := [0, 2, 4, 7, 8, 9], fix := [(⟨7, []⟩, .row .timer .app)], out := (fun e => (match e with | .exit 0 => ([0, 2, 4, 7, 8], []) | _ => ([], []))), oracle := some (f16_l0_o N) } | _ => none)), mode := (fun d => (match d with  | _ => .app)), exit := [(⟨0, [0]⟩, .tree .timer)], fork := false, nd := false }
noncomputable def f16_l0_c : Code := (loopAt 0 ((Try.f16.body).getD .ret)).getD .ret
noncomputable def f16_l0_out : Ex → List Nat × List (Tgt × LK S) := fun e => (match e with | .exit 0 => ([0, 2, 4, 7, 8], []) | _ => ([], []))
theorem f16_l0_step {R : Type} (N : Nat) (v16 : Int) (v19 : List Timer) (v20 : Int) (v21 : Int) (K : Ex → List (TV S) → List (Obj S) → Option R) (rec : List (TV S) → List (Obj S) → Option R) (v17 : Bool) (v18 : Int) (v22 : List Timer) :
    (tcode (E (f16_g N)) (f16_H N) 1 80 N f16_l0_c 0 (mkSt [0, 2, 4, 7, 8, 9] [.ptr 0 0 0, .int .i64 v16, .ptr 1 0 0, .slw 2, .bool v17, .int .i64 v18] [.box [.tree .timer v19], .box [.int .i64 v20, .int .i64 v21], .row .timer v22 .app]) (roundK (headOf 1 [0, 2, 4, 7, 8, 9] ([(⟨7, []⟩, .row .timer .app)] : List (Tgt × LK S))) (fun e => headOf 1 (f16_l0_out e).1 (f16_l0_out e).2) rec K)) =
    f16_l0_b N v16 v19 v20 v21 (fun y0 y1 => K (.exit 0) [.ptr 0 0 0, .int .i64 v16, .ptr 1 0 0, .slw 2, .bool y0] [.box [.tree .timer v19], .box [.int .i64 v20, .int .i64 v21], .row .timer y1 .app]) (fun v17 v18 v22 => rec [.ptr 0 0 0, .int .i64 v16, .ptr 1 0 0, .slw 2, .bool v17, .int .i64 v18] [.box [.tree .timer v19], .box [.int .i64 v20, .int .i64 v21], .row .timer v22 .app]) v17 v18 v22 := by kernel_rfl
theorem f16_l0_ok {R : Type} (N : Nat) (v16 : Int) (v19 : List Timer) (v20 : Int) (v21 : Int) (K : Ex → List (TV S) → List (Obj S) → Option R) : ∀ (n : Nat) (v17 : Bool) (v18 : Int) (v22 : List Timer),
    loopN (fun vals objs k => tcode (E (f16_g N)) (f16_H N) 1 80 N f16_l0_c 0 (mkSt [0, 2, 4, 7, 8, 9] vals objs) k) (headOf 1 [0, 2, 4, 7, 8, 9] ([(⟨7, []⟩, .row .timer .app)] : List (Tgt × LK S))) (fun e => headOf 1 (f16_l0_out e).1 (f16_l0_out e).2) n [.ptr 0 0 0, .int .i64 v16, .ptr 1 0 0, .slw 2, .bool v17, .int .i64 v18] [.box [.tree .timer v19], .box [.int .i64 v20, .int .i64 v21], .row .timer v22 .app] K = f16_l0 N v16 v19 v20 v21 (fun y0 y1 => K (.exit 0) [.ptr 0 0 0, .int .i64 v16, .ptr 1 0 0, .slw 2, .bool y0] [.box [.tree .timer v19], .box [.int .i64 v20, .int .i64 v21], .row .timer y1 .app]) n v17 v18 v22 := by
  intro n
  induction n with
  | zero => intros; rfl
  | succ n ih =>
    intro v17 v18 v22
    rw [loopN_succ]
    exact (f16_l0_step N v16 v19 v20 v21 K _ v17 v18 v22).trans (congrArg (fun r => f16_l0_b N v16 v19 v20 v21 (fun y0 y1 => K (.exit 0) [.ptr 0 0 0, .int .i64 v16, .ptr 1 0 0, .slw 2, .bool y0] [.box [.tree .timer v19], .box [.int .i64 v20, .int .i64 v21], .row .timer y1 .app]) r v17 v18 v22) (funext fun v17 => funext fun v18 => funext fun v22 => ih v17 v18 v22))
noncomputable def f16 {R : Type} (N : Nat) (a : Int) (b : Int) (n : Int) (l : List Timer) (k0 : Int → (List Timer) → Option R) : Option R :=
  (ifB (decide (a < 0)) false (some (decide (b < 0))) (some true)).bind fun c1 =>
  (ifB c1 false (some (decide (n < 1))) (some true)).bind fun c2 =>
  (ifB c2 false (some (decide (n > 65536))) (some true)).bind fun c3 =>
  if c3 = true then
    (k0 1 l)
  else
    (f18 N a b l (fun (r4 : Bool) (r5 : List Timer) =>
    f16_l0 N n r5 a b (fun (y28 : Bool) (y29 : List Timer) =>
    if (!y28) = true then
        (if y29.length + [(⟨(⟨a, b⟩ : Fired), n⟩ : Timer)].length ≤ maxRow then (k0 0 (y29 ++ [(⟨(⟨a, b⟩ : Fired), n⟩ : Timer)])) else none)
      else
        (k0 0 y29)) N false 0 ([] : List Timer)))
theorem f16_run {R : Type} (N : Nat) (a : Int) (b : Int) (n : Int) (l : List Timer) (K : Res S → Option R) :
    runFn (E (f16_g N)) (f16_H N) N Try.f16 [.ptr 0 0 0, .agg [.int .i64 a, .int .i64 b], .int .i64 n] [.box [.tree .timer l]] K = f16 N a b n l (fun y0 y1 => K ⟨.int .i64 y0, some [.box [.tree .timer y1]], []⟩) := by kernel_rfl
theorem f16_loops (N : Nat) : ∀ c, Try.f16.body = some c → LoopsOK (E (f16_g N)) (f16_H N) 1 Try.f16.ntmps N c 0 := by
  intro c hc
  have hnt : Try.f16.ntmps = 80 := by kernel_rfl
  rw [hnt]
  have hl : ((Try.f16.body).map fun c => loopsOf c 0) = some [(0, f16_l0_c)] := by kernel_rfl
  rw [hc] at hl
  simp only [Option.map_some, Option.some.injEq] at hl
  refine loopsOK_of c 0 fun p hp h L h1 h2 R vals objs K r hr => ?_
  rw [hl] at hp
  simp only [List.mem_cons, List.not_mem_nil, or_false] at hp
  subst hp
  · cases h1; cases h2
    simp only [f16_l0_o] at hr
    split at hr
    · exact (f16_l0_ok N _ _ _ _ K N _ _ _).trans hr
    · cases hr

theorem f16_call (N : Nat) (a : Int) (b : Int) (n : Int) (l : List Timer) {R : Type} (k : Res S → Option R) (r : R) (h : runFn (E (f16_g N)) (f16_H N) N Try.f16 [.ptr 0 0 0, .agg [.int .i64 a, .int .i64 b], .int .i64 n] [.box [.tree .timer l]] k = some r) : ∃ res, k res = some r ∧ CallOK (E noCalls) 16 [.ptr 0 0 0, .agg [.int .i64 a, .int .i64 b], .int .i64 n] [.box [.tree .timer l]] res := by
  obtain ⟨res, h1, h2⟩ := runFn_sound (E_ok (f16_g N)) (f16_g_ok N).callf rfl (f := 16) (fn := Try.f16) (by kernel_rfl) (by kernel_rfl) (f16_loops N) h
  exact ⟨res, h1, unE h2⟩

noncomputable def f19_g (N : Nat) : Callf S := fun f args objs R k => match f with
  | _ => none
theorem f19_g_ok (N : Nat) : TabOK (E noCalls) (f19_g N) := by
  intro f args objs R k r h
  cases h
noncomputable def f19_l0_b {R : Type} (N : Nat) (v6 : Int) (v8 : List Timer) (kp0 : (List Timer) → Option R) (rec : Int → (List Timer) → Option R) (v7 : Int) (v9 : List Timer) : Option R :=
  if (decide (v7 < ((v8.length : Nat) : Int))) = true then
    ((at? v8 v7).bind fun e10 =>
    if (e10.f.inst != v6) = true then
      ((at? v8 v7).bind fun e11 =>
      if v9.length + [e11].length ≤ maxRow then (rec (IntKind.wrap .i64 (v7 + 1)) (v9 ++ [e11])) else none)
    else
      (rec (IntKind.wrap .i64 (v7 + 1)) v9))
  else
    (kp0 v9)
noncomputable def f19_l0 {R : Type} (N : Nat) (v6 : Int) (v8 : List Timer) (kp0 : (List Timer) → Option R) : Nat → Int → (List Timer) → Option R
  | 0 => fun _ _ => none
  | n + 1 => fun v7 v9 => f19_l0_b N v6 v8 kp0 (f19_l0 N v6 v8 kp0 n) v7 v9
noncomputable def f19_l0_o (N : Nat) : (R : Type) → List (TV S) → List (Obj S) → (Ex → List (TV S) → List (Obj S) → Option R) → Option R := fun R vals objs K => match vals, objs with
  | [.ptr 0 0 0, .int .i64 v6, .slw 1, .int .i64 v7], [.box [.tree .timer v8], .row .timer v9 .app] => f19_l0 N v6 v8 (fun y0 => K (.exit 0) [.ptr 0 0 0, .slw 1] [.box [.tree .timer v8], .row .timer y0 .app]) N v7 v9
  | _, _ => none
noncomputable def f19_H (N : Nat) : Hint S := { loops := (fun c => (match c with | 0 => some { live := [0, 1, 5, 6], fix := [(⟨5, []⟩, .row .timer .app)], out := (fun e => (match e with | .exit 0 => ([0, 5], []) | _ => ([], []))), oracle := some (f19_l0_o N) } | _ => none)), mode := (fun d => (match d with  | _ => .app)), exit := [(⟨0, [0]⟩, .tree .timer)], fork := false, nd := false }
noncomputable def f19_l0_c : Code := (loopAt 0 ((Try.f19.body).getD .ret)).getD .ret
noncomputable def f19_l0_out : Ex → List Nat × List (Tgt × LK S) := fun e => (match e with | .exit 0 => ([0, 5], []) | _ => ([], []))
theorem f19_l0_step {R : Type} (N : Nat) (v6 : Int) (v8 : List Timer) (K : Ex → List (TV S) → List (Obj S) → Option R) (rec : List (TV S) → List (Obj S) → Option R) (v7 : Int) (v9 : List Timer) :
    (tcode (E (f19_g N)) (f19_H N) 1 51 N f19_l0_c 0 (mkSt [0, 1, 5, 6] [.ptr 0 0 0, .int .i64 v6, .slw 1, .int .i64 v7] [.box [.tree .timer v8], .row .timer v9 .app]) (roundK (headOf 1 [0, 1, 5, 6] ([(⟨5, []⟩, .row .timer .app)] : List (Tgt × LK S))) (fun e => headOf 1 (f19_l0_out e).1 (f19_l0_out e).2) rec K)) =
    f19_l0_b N v6 v8 (fun y0 => K (.exit 0) [.ptr 0 0 0, .slw 1] [.box [.tree .timer v8], .row .timer y0 .app]) (fun v7 v9 => rec [.ptr 0 0 0, .int .i64 v6, .slw 1, .int .i64 v7] [.box [.tree .timer v8], .row .timer v9 .app]) v7 v9 := by kernel_rfl
theorem f19_l0_ok {R : Type} (N : Nat) (v6 : Int) (v8 : List Timer) (K : Ex → List (TV S) → List (Obj S) → Option R) : ∀ (n : Nat) (v7 : Int) (v9 : List Timer),
    loopN (fun vals objs k => tcode (E (f19_g N)) (f19_H N) 1 51 N f19_l0_c 0 (mkSt [0, 1, 5, 6] vals objs) k) (headOf 1 [0, 1, 5, 6] ([(⟨5, []⟩, .row .timer .app)] : List (Tgt × LK S))) (fun e => headOf 1 (f19_l0_out e).1 (f19_l0_out e).2) n [.ptr 0 0 0, .int .i64 v6, .slw 1, .int .i64 v7] [.box [.tree .timer v8], .row .timer v9 .app] K = f19_l0 N v6 v8 (fun y0 => K (.exit 0) [.ptr 0 0 0, .slw 1] [.box [.tree .timer v8], .row .timer y0 .app]) n v7 v9 := by
  intro n
  induction n with
  | zero => intros; rfl
  | succ n ih =>
    intro v7 v9
    rw [loopN_succ]
    exact (f19_l0_step N v6 v8 K _ v7 v9).trans (congrArg (fun r => f19_l0_b N v6 v8 (fun y0 => K (.exit 0) [.ptr 0 0 0, .slw 1] [.box [.tree .timer v8], .row .timer y0 .app]) r v7 v9) (funext fun v7 => funext fun v9 => ih v7 v9))
noncomputable def f19 {R : Type} (N : Nat) (i : Int) (l : List Timer) (k0 : Int → (List Timer) → Option R) : Option R :=
  f19_l0 N i l (fun (y12 : List Timer) =>
  k0 (IntKind.wrap .i64 (((l.length : Nat) : Int) - ((y12.length : Nat) : Int))) y12) N 0 ([] : List Timer)
theorem f19_run {R : Type} (N : Nat) (i : Int) (l : List Timer) (K : Res S → Option R) :
    runFn (E (f19_g N)) (f19_H N) N Try.f19 [.ptr 0 0 0, .int .i64 i] [.box [.tree .timer l]] K = f19 N i l (fun y0 y1 => K ⟨.int .i64 y0, some [.box [.tree .timer y1]], []⟩) := by kernel_rfl
theorem f19_loops (N : Nat) : ∀ c, Try.f19.body = some c → LoopsOK (E (f19_g N)) (f19_H N) 1 Try.f19.ntmps N c 0 := by
  intro c hc
  have hnt : Try.f19.ntmps = 51 := by kernel_rfl
  rw [hnt]
  have hl : ((Try.f19.body).map fun c => loopsOf c 0) = some [(0, f19_l0_c)] := by kernel_rfl
  rw [hc] at hl
  simp only [Option.map_some, Option.some.injEq] at hl
  refine loopsOK_of c 0 fun p hp h L h1 h2 R vals objs K r hr => ?_
  rw [hl] at hp
  simp only [List.mem_cons, List.not_mem_nil, or_false] at hp
  subst hp
  · cases h1; cases h2
    simp only [f19_l0_o] at hr
    split at hr
    · exact (f19_l0_ok N _ _ K N _ _).trans hr
    · cases hr

theorem f19_call (N : Nat) (i : Int) (l : List Timer) {R : Type} (k : Res S → Option R) (r : R) (h : runFn (E (f19_g N)) (f19_H N) N Try.f19 [.ptr 0 0 0, .int .i64 i] [.box [.tree .timer l]] k = some r) : ∃ res, k res = some r ∧ CallOK (E noCalls) 19 [.ptr 0 0 0, .int .i64 i] [.box [.tree .timer l]] res := by
  obtain ⟨res, h1, h2⟩ := runFn_sound (E_ok (f19_g N)) (f19_g_ok N).callf rfl (f := 19) (fn := Try.f19) (by kernel_rfl) (by kernel_rfl) (f19_loops N) h
  exact ⟨res, h1, unE h2⟩

noncomputable def f20_g (N : Nat) : Callf S := fun f args objs R k => match f with
  | _ => none
theorem f20_g_ok (N : Nat) : TabOK (E noCalls) (f20_g N) := by
  intro f args objs R k r h
  cases h
noncomputable def f20_l0_b {R : Type} (N : Nat) (v13 : List Timer) (kp0 : (List Timer) → (List Fired) → Option R) (rec : Int → (List Timer) → (List Fired) → Option R) (v12 : Int) (v14 : List Timer) (v15 : List Fired) : Option R :=
  if (decide (v12 < ((v13.length : Nat) : Int))) = true then
    ((at? v13 v12).bind fun e16 =>
    if (e16.left == 1) = true then
      ((at? v13 v12).bind fun e17 =>
      if v15.length + [e17.f].length ≤ maxRow then (rec (IntKind.wrap .i64 (v12 + 1)) v14 (v15 ++ [e17.f])) else none)
    else
      ((at? v13 v12).bind fun e18 =>
      (at? v13 v12).bind fun e19 =>
      if v14.length + [(⟨e18.f, IntKind.wrap .i64 (e19.left - 1)⟩ : Timer)].length ≤ maxRow then (rec (IntKind.wrap .i64 (v12 + 1)) (v14 ++ [(⟨e18.f, IntKind.wrap .i64 (e19.left - 1)⟩ : Timer)]) v15) else none))
  else
    (kp0 v14 v15)
noncomputable def f20_l0 {R : Type} (N : Nat) (v13 : List Timer) (kp0 : (List Timer) → (List Fired) → Option R) : Nat → Int → (List Timer) → (List Fired) → Option R
  | 0 => fun _ _ _ => none
  | n + 1 => fun v12 v14 v15 => f20_l0_b N v13 kp0 (f20_l0 N v13 kp0 n) v12 v14 v15
noncomputable def f20_l0_o (N : Nat) : (R : Type) → List (TV S) → List (Obj S) → (Ex → List (TV S) → List (Obj S) → Option R) → Option R := fun R vals objs K => match vals, objs with
  | [.ptr 0 0 0, .slw 1, .slw 2, .int .i64 v12], [.box [.tree .timer v13], .row .timer v14 .app, .row .fired v15 .app] => f20_l0 N v13 (fun y0 y1 => K (.exit 0) [.ptr 0 0 0, .slw 1, .slw 2] [.box [.tree .timer v13], .row .timer y0 .app, .row .fired y1 .app]) N v12 v14 v15
  | _, _ => none
noncomputable def f20_H (N : Nat) : Hint S := { loops := (fun c => (match c with | 0 => some { live := [0, 3, 4, 5], fix := [(⟨4, []⟩, .row .fired .app), (⟨3, []⟩, .row .timer .app)], out := (fun e => (match e with | .exit 0 => ([0, 3, 4], []) | _ => ([], []))), oracle := some (f20_l0_o N) } | _ => none)), mode := (fun d => (match d with  | _ => .app)), exit := [(⟨0, [0]⟩, .tree .timer), (⟨2, []⟩, .tree .fired)], fork := false, nd := false }
noncomputable def f20_l0_c : Code := (loopAt 0 ((Try.f20.body).getD .ret)).getD .ret
noncomputable def f20_l0_out : Ex → List Nat × List (Tgt × LK S) := fun e => (match e with | .exit 0 => ([0, 3, 4], []) | _ => ([], []))
theorem f20_l0_step {R : Type} (N : Nat) (v13 : List Timer) (K : Ex → List (TV S) → List (Obj S) → Option R) (rec : List (TV S) → List (Obj S) → Option R) (v12 : Int) (v14 : List Timer) (v15 : List Fired) :
    (tcode (E (f20_g N)) (f20_H N) 1 61 N f20_l0_c 0 (mkSt [0, 3, 4, 5] [.ptr 0 0 0, .slw 1, .slw 2, .int .i64 v12] [.box [.tree .timer v13], .row .timer v14 .app, .row .fired v15 .app]) (roundK (headOf 1 [0, 3, 4, 5] ([(⟨4, []⟩, .row .fired .app), (⟨3, []⟩, .row .timer .app)] : List (Tgt × LK S))) (fun e => headOf 1 (f20_l0_out e).1 (f20_l0_out e).2) rec K)) =
    f20_l0_b N v13 (fun y0 y1 => K (.exit 0) [.ptr 0 0 0, .slw 1, .slw 2] [.box [.tree .timer v13], .row .timer y0 .app, .row .fired y1 .app]) (fun v12 v14 v15 => rec [.ptr 0 0 0, .slw 1, .slw 2, .int .i64 v12] [.box [.tree .timer v13], .row .timer v14 .app, .row .fired v15 .app]) v12 v14 v15 := by kernel_rfl
theorem f20_l0_ok {R : Type} (N : Nat) (v13 : List Timer) (K : Ex → List (TV S) → List (Obj S) → Option R) : ∀ (n : Nat) (v12 : Int) (v14 : List Timer) (v15 : List Fired),
    loopN (fun vals objs k => tcode (E (f20_g N)) (f20_H N) 1 61 N f20_l0_c 0 (mkSt [0, 3, 4, 5] vals objs) k) (headOf 1 [0, 3, 4, 5] ([(⟨4, []⟩, .row .fired .app), (⟨3, []⟩, .row .timer .app)] : List (Tgt × LK S))) (fun e => headOf 1 (f20_l0_out e).1 (f20_l0_out e).2) n [.ptr 0 0 0, .slw 1, .slw 2, .int .i64 v12] [.box [.tree .timer v13], .row .timer v14 .app, .row .fired v15 .app] K = f20_l0 N v13 (fun y0 y1 => K (.exit 0) [.ptr 0 0 0, .slw 1, .slw 2] [.box [.tree .timer v13], .row .timer y0 .app, .row .fired y1 .app]) n v12 v14 v15 := by
  intro n
  induction n with
  | zero => intros; rfl
  | succ n ih =>
    intro v12 v14 v15
    rw [loopN_succ]
    exact (f20_l0_step N v13 K _ v12 v14 v15).trans (congrArg (fun r => f20_l0_b N v13 (fun y0 y1 => K (.exit 0) [.ptr 0 0 0, .slw 1, .slw 2] [.box [.tree .timer v13], .row .timer y0 .app, .row .fired y1 .app]) r v12 v14 v15) (funext fun v12 => funext fun v14 => funext fun v15 => ih v12 v14 v15))
noncomputable def f20 {R : Type} (N : Nat) (l : List Timer) (k0 : (List Fired) → (List Timer) → Option R) : Option R :=
  f20_l0 N l (fun (y20 : List Timer) (y21 : List Fired) =>
  k0 y21 y20) N 0 ([] : List Timer) ([] : List Fired)
theorem f20_run {R : Type} (N : Nat) (l : List Timer) (K : Res S → Option R) :
    runFn (E (f20_g N)) (f20_H N) N Try.f20 [.ptr 0 0 0] [.box [.tree .timer l]] K = f20 N l (fun y0 y1 => K ⟨.tree .fired y0, some [.box [.tree .timer y1]], []⟩) := by kernel_rfl
theorem f20_loops (N : Nat) : ∀ c, Try.f20.body = some c → LoopsOK (E (f20_g N)) (f20_H N) 1 Try.f20.ntmps N c 0 := by
  intro c hc
  have hnt : Try.f20.ntmps = 61 := by kernel_rfl
  rw [hnt]
  have hl : ((Try.f20.body).map fun c => loopsOf c 0) = some [(0, f20_l0_c)] := by kernel_rfl
  rw [hc] at hl
  simp only [Option.map_some, Option.some.injEq] at hl
  refine loopsOK_of c 0 fun p hp h L h1 h2 R vals objs K r hr => ?_
  rw [hl] at hp
  simp only [List.mem_cons, List.not_mem_nil, or_false] at hp
  subst hp
  · cases h1; cases h2
    simp only [f20_l0_o] at hr
    split at hr
    · exact (f20_l0_ok N _ K N _ _ _).trans hr
    · cases hr

theorem f20_call (N : Nat) (l : List Timer) {R : Type} (k : Res S → Option R) (r : R) (h : runFn (E (f20_g N)) (f20_H N) N Try.f20 [.ptr 0 0 0] [.box [.tree .timer l]] k = some r) : ∃ res, k res = some r ∧ CallOK (E noCalls) 20 [.ptr 0 0 0] [.box [.tree .timer l]] res := by
  obtain ⟨res, h1, h2⟩ := runFn_sound (E_ok (f20_g N)) (f20_g_ok N).callf rfl (f := 20) (fn := Try.f20) (by kernel_rfl) (by kernel_rfl) (f20_loops N) h
  exact ⟨res, h1, unE h2⟩

noncomputable def f24_g (N : Nat) : Callf S := fun f args objs R k => match f with
  | _ => none
theorem f24_g_ok (N : Nat) : TabOK (E noCalls) (f24_g N) := by
  intro f args objs R k r h
  cases h
noncomputable def f24_l0_b {R : Type} (N : Nat) (v4 : List Timer) (kp0 : Int → Option R) (rec : Int → Int → Option R) (v2 : Int) (v3 : Int) : Option R :=
  if (decide (v3 < ((v4.length : Nat) : Int))) = true then
    ((at? v4 v3).bind fun e5 =>
    rec (if (e5.left < v2) then e5.left else v2) (IntKind.wrap .i64 (v3 + 1)))
  else
    (kp0 v2)
noncomputable def f24_l0 {R : Type} (N : Nat) (v4 : List Timer) (kp0 : Int → Option R) : Nat → Int → Int → Option R
  | 0 => fun _ _ => none
  | n + 1 => fun v2 v3 => f24_l0_b N v4 kp0 (f24_l0 N v4 kp0 n) v2 v3
noncomputable def f24_l0_o (N : Nat) : (R : Type) → List (TV S) → List (Obj S) → (Ex → List (TV S) → List (Obj S) → Option R) → Option R := fun R vals objs K => match vals, objs with
  | [.ptr 0 0 0, .int .i64 v2, .int .i64 v3], [.box [.tree .timer v4]] => f24_l0 N v4 (fun y0 => K (.exit 0) [.int .i64 y0] [.box [.tree .timer v4]]) N v2 v3
  | _, _ => none
noncomputable def f24_H (N : Nat) : Hint S := { loops := (fun c => (match c with | 0 => some { live := [0, 4, 5], fix := [], out := (fun e => (match e with | .exit 0 => ([4], []) | _ => ([], []))), oracle := some (f24_l0_o N) } | _ => none)), mode := (fun d => (match d with  | _ => .app)), exit := [], fork := false, nd := false }
noncomputable def f24_l0_c : Code := (loopAt 0 ((Try.f24.body).getD .ret)).getD .ret
noncomputable def f24_l0_out : Ex → List Nat × List (Tgt × LK S) := fun e => (match e with | .exit 0 => ([4], []) | _ => ([], []))
theorem f24_l0_step {R : Type} (N : Nat) (v4 : List Timer) (K : Ex → List (TV S) → List (Obj S) → Option R) (rec : List (TV S) → List (Obj S) → Option R) (v2 : Int) (v3 : Int) :
    (tcode (E (f24_g N)) (f24_H N) 1 39 N f24_l0_c 0 (mkSt [0, 4, 5] [.ptr 0 0 0, .int .i64 v2, .int .i64 v3] [.box [.tree .timer v4]]) (roundK (headOf 1 [0, 4, 5] ([] : List (Tgt × LK S))) (fun e => headOf 1 (f24_l0_out e).1 (f24_l0_out e).2) rec K)) =
    f24_l0_b N v4 (fun y0 => K (.exit 0) [.int .i64 y0] [.box [.tree .timer v4]]) (fun v2 v3 => rec [.ptr 0 0 0, .int .i64 v2, .int .i64 v3] [.box [.tree .timer v4]]) v2 v3 := by kernel_rfl
theorem f24_l0_ok {R : Type} (N : Nat) (v4 : List Timer) (K : Ex → List (TV S) → List (Obj S) → Option R) : ∀ (n : Nat) (v2 : Int) (v3 : Int),
    loopN (fun vals objs k => tcode (E (f24_g N)) (f24_H N) 1 39 N f24_l0_c 0 (mkSt [0, 4, 5] vals objs) k) (headOf 1 [0, 4, 5] ([] : List (Tgt × LK S))) (fun e => headOf 1 (f24_l0_out e).1 (f24_l0_out e).2) n [.ptr 0 0 0, .int .i64 v2, .int .i64 v3] [.box [.tree .timer v4]] K = f24_l0 N v4 (fun y0 => K (.exit 0) [.int .i64 y0] [.box [.tree .timer v4]]) n v2 v3 := by
  intro n
  induction n with
  | zero => intros; rfl
  | succ n ih =>
    intro v2 v3
    rw [loopN_succ]
    exact (f24_l0_step N v4 K _ v2 v3).trans (congrArg (fun r => f24_l0_b N v4 (fun y0 => K (.exit 0) [.int .i64 y0] [.box [.tree .timer v4]]) r v2 v3) (funext fun v2 => funext fun v3 => ih v2 v3))
noncomputable def f24 {R : Type} (N : Nat) (l : List Timer) (k0 : Int → Bool → Option R) : Option R :=
  if (((l.length : Nat) : Int) == 0) = true then
    (k0 0 false)
  else
    ((at? l 0).bind fun e1 =>
    f24_l0 N l (fun (y6 : Int) =>
    k0 y6 true) N e1.left 1)
theorem f24_run {R : Type} (N : Nat) (l : List Timer) (K : Res S → Option R) :
    runFn (E (f24_g N)) (f24_H N) N Try.f24 [.ptr 0 0 0] [.box [.tree .timer l]] K = f24 N l (fun y0 y1 => K ⟨.tup [.int .i64 y0, .bool y1], some [.box [.tree .timer l]], []⟩) := by kernel_rfl
theorem f24_loops (N : Nat) : ∀ c, Try.f24.body = some c → LoopsOK (E (f24_g N)) (f24_H N) 1 Try.f24.ntmps N c 0 := by
  intro c hc
  have hnt : Try.f24.ntmps = 39 := by kernel_rfl
  rw [hnt]
  have hl : ((Try.f24.body).map fun c => loopsOf c 0) = some [(0, f24_l0_c)] := by kernel_rfl
  rw [hc] at hl
  simp only [Option.map_some, Option.some.injEq] at hl
  refine loopsOK_of c 0 fun p hp h L h1 h2 R vals objs K r hr => ?_
  rw [hl] at hp
  simp only [List.mem_cons, List.not_mem_nil, or_false] at hp
  subst hp
  · cases h1; cases h2
    simp only [f24_l0_o] at hr
    split at hr
    · exact (f24_l0_ok N _ K N _ _).trans hr
    · cases hr

theorem f24_call (N : Nat) (l : List Timer) {R : Type} (k : Res S → Option R) (r : R) (h : runFn (E (f24_g N)) (f24_H N) N Try.f24 [.ptr 0 0 0] [.box [.tree .timer l]] k = some r) : ∃ res, k res = some r ∧ CallOK (E noCalls) 24 [.ptr 0 0 0] [.box [.tree .timer l]] res := by
  obtain ⟨res, h1, h2⟩ := runFn_sound (E_ok (f24_g N)) (f24_g_ok N).callf rfl (f := 24) (fn := Try.f24) (by kernel_rfl) (by kernel_rfl) (f24_loops N) h
  exact ⟨res, h1, unE h2⟩

end Wh
