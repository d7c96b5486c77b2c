/- EffectWays: for every input the law returns true, and its arguments read as they did. -/
import Derived.Test.YtfpfmibcnldepaaE70
import Derived.Test.YtfpfmibcnldepaaRows
import Derived.WalkKit
import Derived.ProofKit
import Derived.OpenShut
import Derived.ShutString
import Derived.Carry
namespace Go.Proofs.Ytfpfmibcnldepaa.effectWays
open Go Go.ChangeShapes Go.WideShapes Go.ChangeAt Go.RowKit TE Ef
set_option linter.unusedVariables false
theorem own : ownKnob Try.prog.godebug = none := by kernel_rfl
theorem laidOut : laidOutB Try.prog = true := by kernel_rfl
set_option maxRecDepth 100000 in
theorem lifted (os : Os) (started : os.Started) (H : Type) (enc : TypeId × Value → H) :
    ReturnsInHanded {} Try.checked os 3 .any (Rows.effectWaysSpec.pre6 enc Try.prog Try.f3 Rows.effectWaysRow.domain false) (Rows.effectWaysSpec.post enc Try.prog Try.f3 false true false false) := by
  refine returnsInHanded_of_change (C := Try.checked) own started (by kernel_rfl) Try.func3
    (ChangeSpec.witness6 (enc := enc) (C := Try.checked) false ⟨#[], #[.slice none 0 0, .int .i64 0], []⟩ 8 (by kernel_rfl) (by kernel_rfl) (by kernel_rfl) (by kernel_rfl)) ?_
  intro W base args ds gs before hval0 hW hcnd _
  have hval : ∀ (j : Nat) t v, Try.f3.params[j]? = some t → args[j]? = some v → Value.okWide Try.prog W .any base t v := hval0
  have hW' := hW
  obtain ⟨p, q, hA0, hV, rfl, hfz, hnd⟩ := hW
  have hA : DataW.TrodAll enc Try.prog W 0 (fun _ => true) true Try.f3.params.toList args.toList ds p := hA0
  rw [Try.params3] at hA hval
  obtain ⟨v0, vs0, d0, ds0, p0, q0, hargs, rfl, rfl, h0, r0⟩ := trodAll_cons hA
  obtain ⟨v1, vs1, d1, ds1, p1, q1, rfl, rfl, rfl, h1, r1⟩ := trodAll_cons r0
  obtain ⟨rfl, rfl, rfl⟩ := trodAll_nil r1
  obtain rfl : args = #[v0, v1] := by cases args; simp_all
  obtain ⟨rfl, rfl⟩ := trodVars_none hV
  have k0 := h0
  have lt0 : ∀ x ∈ p0, x.block < W.heap.size := by obtain ⟨m, hm⟩ := k0; exact DataW.trod_lt m _ _ _ hm
  obtain ⟨s0, sl0, sc0, rfl⟩ := okWide_slice Try.underlying22 (hval 0 22 v0 rfl rfl)
  obtain ⟨fu0, hf0⟩ := h0
  obtain ⟨tvs0, ok0, cr0⟩ := trod_tv (E := E noCalls) (kinds := kinds) (E_ok _) (kinds_ok _) (enc_tot _) (G := fun c => c ∈ ([.int] : List K)) (by intro c hc; cases c <;> first | exact absurd hc (by decide) | exact ⟨rfl, fun d hd => by revert hd; simp [kinds]⟩) fu0 40 22 _ _ [.sl .int] hf0 (by kernel_rfl) (by intro c hc; cases c <;> first | decide | (exfalso; revert hc; simp; done) | (exfalso; rcases List.mem_singleton.1 hc with h; cases h))
  obtain ⟨y0, yr0, rfl, oq0, or0⟩ := all2_cons ok0
  obtain ⟨on0, a0, rfl, wf0⟩ := okN_sl oq0
  obtain rfl := all2_nil or0
  have k1 := h1
  have lt1 : ∀ x ∈ p1, x.block < W.heap.size := by obtain ⟨m, hm⟩ := k1; exact DataW.trod_lt m _ _ _ hm
  obtain ⟨s1, rfl⟩ := okWide_int Try.underlying3 (hval 1 3 v1 rfl rfl)
  obtain ⟨fu1, hf1⟩ := h1
  obtain ⟨tvs1, ok1, cr1⟩ := trod_tv (E := E noCalls) (kinds := kinds) (E_ok _) (kinds_ok _) (enc_tot _) (G := fun c => c ∈ ([] : List K)) (by intro c hc; cases c <;> first | exact absurd hc (by decide) | exact ⟨rfl, fun d hd => by revert hd; simp [kinds]⟩) fu1 40 3 _ _ [.int .i64] hf1 (by kernel_rfl) (by intro c hc; cases c <;> first | decide | (exfalso; revert hc; simp; done) | (exfalso; rcases List.mem_singleton.1 hc with h; cases h))
  obtain ⟨y1, yr1, rfl, oq1, or1⟩ := all2_cons ok1
  obtain ⟨a1, rfl, wf1⟩ := okN_int oq1
  obtain rfl := all2_nil or1
  clear hA0 hval0
  refine (calls_law (E := E noCalls) (effectWays_ok a0 a1 wf0 wf1) W (vals := #[.slice s0 sl0 sc0, .int .i64 s1]) ⟨vr_one rfl cr0, ⟨vr_one rfl cr1, trivial⟩⟩).mono fun e W' ⟨he, bel⟩ => ?_
  subst he
  exact ⟨_, rfl, _, _, _, [], _, [], hW', trodAll_mk1 (shut_bool Try.underlying4 _), (trodAll_cons_mk (Below.trod laidOut (by kernel_rfl) (of_decide_eq_true (by kernel_rfl)) k0 bel lt0) (trodAll_cons_mk (Below.trod laidOut (by kernel_rfl) (of_decide_eq_true (by kernel_rfl)) k1 bel lt1) trodAll_mk0)), rfl, bel.frame _, fun h => by cases h⟩
theorem over : Rows.effectWaysRow.holds Try.pinned (OpenSpec.ofChange Rows.effectWaysSpec) :=
  OpenClaim.holds_of_wide 3 Try.f3 rfl rfl rfl rfl rfl rfl rfl ⟨rfl, rfl, rfl, rfl, rfl⟩ rfl rfl rfl rfl rfl (by kernel_rfl) Try.func3 (by kernel_rfl)
    (of_decide_eq_true (by kernel_rfl)) (by unfold Func.isWrapper; first | (rw [if_pos (by decide +kernel)]; kernel_rfl) | (rw [if_neg (by decide +kernel)]; exact ⟨rfl, rfl⟩))
    (fun os started H enc _ => lifted os started H enc)
theorem proved : Rows.EffectWaysSaid := over
#print axioms proved
end Go.Proofs.Ytfpfmibcnldepaa.effectWays

