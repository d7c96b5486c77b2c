/- W8: a part of the proof of WheelPlays: lemmas on the evaluator and on the functions that the law reaches. -/
import Derived.Test.YtlagbbfgaanpcaaW7
set_option maxRecDepth 100000
set_option linter.unusedVariables false
namespace Wh
open Go TE Go.Proofs
noncomputable def e10 (N : Nat) (args : List (TV S)) (objs : List (TE.Obj S)) (R : Type) (k : Res S → Option R) : Option R := match args, objs with
  | [.ptr 0 0 0], [.box [.map 1], .mapo true [.int .i64, .int .i64] false .int L ex cl] => if L.length ≤ 1000 then k ⟨.tree .fired (tickF L), some (wob (tickL L) false cl), []⟩ else none
  | [.nilp], [] => f10n N (fun y0 => k ⟨.tree .fired y0, some [], []⟩)
  | _, _ => none
theorem e10_ok (N : Nat) (args : List (TV S)) (objs : List (TE.Obj S)) (R : Type) (k : Res S → Option R) (r : R) (h : e10 N args objs R k = some r) : ∃ res, k res = some r ∧ CallOK (E noCalls) 10 args objs res := by
  unfold e10 at h
  split at h
  · split at h
    · rename_i hl; exact ⟨_, h, c10 _ _ _ hl⟩
    · cases h
  · exact f10n_call N _ _ ((f10n_run N _).trans h)
  · cases h

noncomputable def e14 (N : Nat) (args : List (TV S)) (objs : List (TE.Obj S)) (R : Type) (k : Res S → Option R) : Option R := match args, objs with
  | [.ptr 0 0 0, .int .i64 i], [.box [.map 1], .mapo true [.int .i64, .int .i64] false .int L ex cl] => k ⟨.int .i64 (IntKind.wrap .i64 (((L.length : Nat) : Int) - (((clr i L).length : Nat) : Int))), some (wob (clr i L) false cl), []⟩
  | [.nilp, .int .i64 i], [] => f14n N i (fun y0 => k ⟨.int .i64 y0, some [], []⟩)
  | _, _ => none
theorem e14_ok (N : Nat) (args : List (TV S)) (objs : List (TE.Obj S)) (R : Type) (k : Res S → Option R) (r : R) (h : e14 N args objs R k = some r) : ∃ res, k res = some r ∧ CallOK (E noCalls) 14 args objs res := by
  unfold e14 at h
  split at h
  · exact ⟨_, h, c14 N _ _ _ _⟩
  · exact f14n_call N _ _ _ ((f14n_run N _ _).trans h)
  · cases h

def next23 {R : Type} (L : ML) (k0 : Int → Bool → Option R) : Option R := if L.length = 0 then k0 0 false else k0 (least 65536 L) true

noncomputable def e23 (N : Nat) (args : List (TV S)) (objs : List (TE.Obj S)) (R : Type) (k : Res S → Option R) : Option R := match args, objs with
  | [.ptr 0 0 0], [.box [.map 1], .mapo true [.int .i64, .int .i64] false .int L ex cl] => next23 L (fun q0 q1 => k ⟨.tup [.int .i64 q0, .bool q1], some (wob L false cl), []⟩)
  | [.nilp], [] => f23n N (fun y0 y1 => k ⟨.tup [.int .i64 y0, .bool y1], some [], []⟩)
  | _, _ => none
theorem e23_ok (N : Nat) (args : List (TV S)) (objs : List (TE.Obj S)) (R : Type) (k : Res S → Option R) (r : R) (h : e23 N args objs R k = some r) : ∃ res, k res = some r ∧ CallOK (E noCalls) 23 args objs res := by
  unfold e23 at h
  split at h
  · rename_i L ex cl
    refine ⟨nextRes L false cl, ?_, c23 _ _ _⟩
    unfold next23 at h
    unfold nextRes
    split at h
    · rename_i h0; rw [if_pos h0]; exact h
    · rename_i h0; rw [if_neg h0]; exact h
  · exact f23n_call N _ _ ((f23n_run N _).trans h)
  · cases h

noncomputable def e8 (N : Nat) (args : List (TV S)) (objs : List (Obj S)) (R : Type) (k : Res S → Option R) : Option R := match args, objs with
  | [], [] => f8 N  (fun q0 q1 q2 => k ⟨.ptr 0 0 0, some [], [.box [.map 1], .mapo true [.int .i64, .int .i64] false .int q0 q1 q2]⟩)
  | _, _ => none
theorem e8_ok (N : Nat) (args : List (TV S)) (objs : List (Obj S)) (R : Type) (k : Res S → Option R) (r : R) (h : e8 N args objs R k = some r) : ∃ res, k res = some r ∧ CallOK (E noCalls) 8 args objs res := by
  unfold e8 at h
  split at h
  · exact f8_call N  _ _ ((f8_run N  _).trans h)
  · cases h

noncomputable def e9 (N : Nat) (args : List (TV S)) (objs : List (Obj S)) (R : Type) (k : Res S → Option R) : Option R := match args, objs with
  | [.ptr 0 0 0, .agg [.int .i64 a, .int .i64 b], .int .i64 n], [.box [.map 1], .mapo true [.int .i64, .int .i64] false .int L ex cl] => f9 N a b n L ex cl (fun q0 q1 q2 => k ⟨.int .i64 q0, some [.box [.map 1], .mapo true [.int .i64, .int .i64] false .int q1 ex q2], []⟩)
  | [.nilp, .agg [.int .i64 a, .int .i64 b], .int .i64 n], [] => f9n N a b n (fun q0 => k ⟨.int .i64 q0, some [], []⟩)
  | _, _ => none
theorem e9_ok (N : Nat) (args : List (TV S)) (objs : List (Obj S)) (R : Type) (k : Res S → Option R) (r : R) (h : e9 N args objs R k = some r) : ∃ res, k res = some r ∧ CallOK (E noCalls) 9 args objs res := by
  unfold e9 at h
  split at h
  · exact f9_call N _ _ _ _ _ _ _ _ ((f9_run N _ _ _ _ _ _ _).trans h)
  · exact f9n_call N _ _ _ _ _ ((f9n_run N _ _ _ _).trans h)
  · cases h

noncomputable def f12_g (N : Nat) : Callf S := fun f args objs R k => match f with
  | 8 => e8 N args objs R k
  | 9 => e9 N args objs R k
  | 10 => e10 N args objs R k
  | 11 => e11 N args objs R k
  | 23 => e23 N args objs R k
  | _ => none
theorem f12_g_ok (N : Nat) : TabOK (E noCalls) (f12_g N) := by
  intro f args objs R k r h
  unfold f12_g at h
  split at h
  · exact e8_ok N _ _ _ _ _ h
  · exact e9_ok N _ _ _ _ _ h
  · exact e10_ok N _ _ _ _ _ h
  · exact e11_ok N _ _ _ _ _ h
  · exact e23_ok N _ _ _ _ _ h
  · cases h
noncomputable def f12_H (N : Nat) : Hint S := { loops := (fun c => (match c with  | _ => none)), mode := (fun d => (match d with  | _ => .app)), exit := [], fork := false, nd := false }
noncomputable def f12 {R : Type} (N : Nat)  (k0 : Bool → Option R) : Option R :=
  f9 N 0 1 2 [] true 0 (fun (r1 : Int) (r2 : List (List Sc × Int × Nat)) (r3 : Nat) =>
  f9 N 0 0 2 r2 true r3 (fun (r4 : Int) (r5 : List (List Sc × Int × Nat)) (r6 : Nat) =>
  next23 r5 (fun (r7 : Int) (r8 : Bool) =>
  if r5.length ≤ 1000 then (if (tickL r5).length ≤ 1000 then ((ifB (r1 == 0) true (some (r4 == 0)) (some false)).bind fun c9 =>
      (ifB c9 true (some (r7 == 2)) (some false)).bind fun c10 =>
      (ifB c10 true (some r8) (some false)).bind fun c11 =>
      (ifB c11 true (some ((((tickF r5).length : Nat) : Int) == 0)) (some false)).bind fun c12 =>
      (ifB c12 true (some ((((tickF (tickL r5)).length : Nat) : Int) == 2)) (some false)).bind fun c13 =>
      (ifB c13 true ((at? (tickF (tickL r5)) 0).bind fun e14 =>
      some ((e14.inst == 0) && ((e14.timer == 0) && true))) (some false)).bind fun c15 =>
      (ifB c15 true ((at? (tickF (tickL r5)) 1).bind fun e16 =>
      some ((e16.inst == 0) && ((e16.timer == 1) && true))) (some false)).bind fun c17 =>
      (ifB c17 true (some ((((tickL (tickL r5)).length : Nat) : Int) == 0)) (some false)).bind fun c18 =>
      k0 c18) else none) else none)))
theorem f12_run {R : Type} (N : Nat)  (K : Res S → Option R) :
    runFn (E (f12_g N)) (f12_H N) N Try.f12 [] [] K = f12 N  (fun y0 => K ⟨.bool y0, some [], []⟩) := by kernel_rfl
theorem f12_loops (N : Nat) : ∀ c, Try.f12.body = some c → LoopsOK (E (f12_g N)) (f12_H N) 0 Try.f12.ntmps N c 0 :=
  fun c _ => loopsOK_none (fun _ _ h => by cases h) c 0
theorem f12_call (N : Nat)  {R : Type} (k : Res S → Option R) (r : R) (h : runFn (E (f12_g N)) (f12_H N) N Try.f12 [] [] k = some r) : ∃ res, k res = some r ∧ CallOK (E noCalls) 12 [] [] res := by
  obtain ⟨res, h1, h2⟩ := runFn_sound (E_ok (f12_g N)) (f12_g_ok N).callf rfl (f := 12) (fn := Try.f12) (by kernel_rfl) (by kernel_rfl) (f12_loops N) h
  exact ⟨res, h1, unE h2⟩

noncomputable def e12 (N : Nat) (args : List (TV S)) (objs : List (Obj S)) (R : Type) (k : Res S → Option R) : Option R := match args, objs with
  | [], [] => f12 N  (fun q0 => k ⟨.bool q0, some [], []⟩)
  | _, _ => none
theorem e12_ok (N : Nat) (args : List (TV S)) (objs : List (Obj S)) (R : Type) (k : Res S → Option R) (r : R) (h : e12 N args objs R k = some r) : ∃ res, k res = some r ∧ CallOK (E noCalls) 12 args objs res := by
  unfold e12 at h
  split at h
  · exact f12_call N  _ _ ((f12_run N  _).trans h)
  · cases h

noncomputable def e17 (N : Nat) (args : List (TV S)) (objs : List (Obj S)) (R : Type) (k : Res S → Option R) : Option R := match args, objs with
  | [.ptr 0 0 0, .agg [.int .i64 a, .int .i64 b]], [.box [.map 1], .mapo true [.int .i64, .int .i64] false .int L ex cl] => f17 N a b L ex cl (fun q0 q1 => k ⟨.bool q0, some [.box [.map 1], .mapo true [.int .i64, .int .i64] false .int q1 ex cl], []⟩)
  | [.nilp, .agg [.int .i64 a, .int .i64 b]], [] => f17n N a b (fun q0 => k ⟨.bool q0, some [], []⟩)
  | _, _ => none
theorem e17_ok (N : Nat) (args : List (TV S)) (objs : List (Obj S)) (R : Type) (k : Res S → Option R) (r : R) (h : e17 N args objs R k = some r) : ∃ res, k res = some r ∧ CallOK (E noCalls) 17 args objs res := by
  unfold e17 at h
  split at h
  · exact f17_call N _ _ _ _ _ _ _ ((f17_run N _ _ _ _ _ _).trans h)
  · exact f17n_call N _ _ _ _ ((f17n_run N _ _ _).trans h)
  · cases h

noncomputable def f7_g (N : Nat) : Callf S := fun f args objs R k => match f with
  | 9 => e9 N args objs R k
  | 10 => e10 N args objs R k
  | 11 => e11 N args objs R k
  | 12 => e12 N args objs R k
  | 14 => e14 N args objs R k
  | 17 => e17 N args objs R k
  | 21 => e21 N args objs R k
  | 23 => e23 N args objs R k
  | _ => none
theorem f7_g_ok (N : Nat) : TabOK (E noCalls) (f7_g N) := by
  intro f args objs R k r h
  unfold f7_g at h
  split at h
  · exact e9_ok N _ _ _ _ _ h
  · exact e10_ok N _ _ _ _ _ h
  · exact e11_ok N _ _ _ _ _ h
  · exact e12_ok N _ _ _ _ _ h
  · exact e14_ok N _ _ _ _ _ h
  · exact e17_ok N _ _ _ _ _ h
  · exact e21_ok N _ _ _ _ _ h
  · exact e23_ok N _ _ _ _ _ h
  · cases h
noncomputable def f7_H (N : Nat) : Hint S := { loops := (fun c => (match c with  | _ => none)), mode := (fun d => (match d with  | _ => .app)), exit := [], fork := false, nd := false }
noncomputable def f7 {R : Type} (N : Nat) (a : Int) (b : Int) (n : Int) (k0 : Bool → Option R) : Option R :=
  (ifB (((([] : List Fired).length : Nat) : Int) == 0) true (some ((IntKind.wrap .i64 (0 - 0)) == 0)) (some false)).bind fun c7 =>
  (ifB c7 true (some true) (some false)).bind fun c8 =>
  (ifB c8 true (f12 N  (fun (r9 : Bool) =>
  some r9)) (some false)).bind fun c10 =>
  k0 c10
theorem f7_run {R : Type} (N : Nat) (a : Int) (b : Int) (n : Int) (K : Res S → Option R) :
    runFn (E (f7_g N)) (f7_H N) N Try.f7 [.agg [.int .i64 a, .int .i64 b], .int .i64 n] [] K = f7 N a b n (fun y0 => K ⟨.bool y0, some [], []⟩) := by kernel_rfl
theorem f7_loops (N : Nat) : ∀ c, Try.f7.body = some c → LoopsOK (E (f7_g N)) (f7_H N) 0 Try.f7.ntmps N c 0 :=
  fun c _ => loopsOK_none (fun _ _ h => by cases h) c 0
theorem f7_call (N : Nat) (a : Int) (b : Int) (n : Int) {R : Type} (k : Res S → Option R) (r : R) (h : runFn (E (f7_g N)) (f7_H N) N Try.f7 [.agg [.int .i64 a, .int .i64 b], .int .i64 n] [] k = some r) : ∃ res, k res = some r ∧ CallOK (E noCalls) 7 [.agg [.int .i64 a, .int .i64 b], .int .i64 n] [] res := by
  obtain ⟨res, h1, h2⟩ := runFn_sound (E_ok (f7_g N)) (f7_g_ok N).callf rfl (f := 7) (fn := Try.f7) (by kernel_rfl) (by kernel_rfl) (f7_loops N) h
  exact ⟨res, h1, unE h2⟩

end Wh
