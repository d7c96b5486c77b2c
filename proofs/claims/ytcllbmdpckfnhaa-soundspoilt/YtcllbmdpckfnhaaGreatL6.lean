/- SoundSpoilt: for every input the law returns true, and its arguments read as they did. -/
import Derived.Test.YtcllbmdpckfnhaaGreatL5
import Derived.Test.YtcllbmdpckfnhaaGreatRows
import Derived.WalkKit
import Derived.ProofKit
import Derived.OpenShut
import Derived.ShutString
import Derived.Carry
namespace Go.Proofs.YtcllbmdpckfnhaaGreat.soundSpoilt
open Go Go.ChangeShapes Go.WideShapes Go.ChangeAt Go.RowKit TE So
set_option linter.unusedVariables false
theorem own : ownKnob Tryz.prog.godebug = none := by kernel_rfl
theorem laidOut : laidOutB Tryz.prog = true := by kernel_rfl
set_option maxRecDepth 100000 in
theorem lifted (os : Os) (started : os.Started) (H : Type) (enc : TypeId × Value → H) :
    ReturnsInHanded {} Tryz.checked os 4 .any (Rows.soundSpoiltSpec.pre6 enc Tryz.prog Tryz.f4 Rows.soundSpoiltRow.domain false) (Rows.soundSpoiltSpec.post enc Tryz.prog Tryz.f4 false true false false) := by
  refine returnsInHanded_of_change (C := Tryz.checked) own started (by kernel_rfl) Tryz.func4
    (ChangeSpec.witness6 (enc := enc) (C := Tryz.checked) false ⟨#[], #[.slice none 0 0, .int .i64 0, .int .i64 0], []⟩ 8 (by kernel_rfl) (by kernel_rfl) (by kernel_rfl) (by kernel_rfl)) ?_
  intro W base args ds gs before hval0 hW hcnd _
  have hval : ∀ (j : Nat) t v, Tryz.f4.params[j]? = some t → args[j]? = some v → Value.okWide Tryz.prog W .any base t v := hval0
  have hW' := hW
  obtain ⟨p, q, hA0, hV, rfl, hfz, hnd⟩ := hW
  have hA : DataW.TrodAll enc Tryz.prog W 0 (fun _ => true) true Tryz.f4.params.toList args.toList ds p := hA0
  rw [Tryz.params4] at hA hval
  obtain ⟨v0, vs0, d0, ds0, p0, q0, hargs, rfl, rfl, h0, r0⟩ := trodAll_cons hA
  obtain ⟨v1, vs1, d1, ds1, p1, q1, rfl, rfl, rfl, h1, r1⟩ := trodAll_cons r0
  obtain ⟨v2, vs2, d2, ds2, p2, q2, rfl, rfl, rfl, h2, r2⟩ := trodAll_cons r1
  obtain ⟨rfl, rfl, rfl⟩ := trodAll_nil r2
  obtain rfl : args = #[v0, v1, v2] := by cases args; simp_all
  obtain ⟨rfl, rfl⟩ := trodVars_none hV
  have k0 := h0
  have lt0 : ∀ x ∈ p0, x.block < W.heap.size := by obtain ⟨m, hm⟩ := k0; exact DataW.trod_lt m _ _ _ hm
  obtain ⟨s0, sl0, sc0, rfl⟩ := okWide_slice Tryz.underlying36 (hval 0 36 v0 rfl rfl)
  obtain ⟨fu0, hf0⟩ := h0
  obtain ⟨tvs0, ok0, cr0⟩ := NB (E := E Ak) (kinds := kinds) (Yc _) (JK _) (MS _) (G := fun c => c ∈ ([.int] : List K)) (by intro c hc; cases c <;> first | exact absurd hc (by decide) | exact ⟨rfl, fun d hd => by revert hd; simp [kinds]⟩) fu0 40 36 _ _ [.sl .int] hf0 (by kernel_rfl) (by intro c hc; cases c <;> first | decide | (exfalso; revert hc; simp; done) | (exfalso; rcases List.mem_singleton.1 hc with h; cases h))
  obtain ⟨y0, yr0, rfl, oq0, or0⟩ := ar ok0
  obtain ⟨on0, a0, rfl, wf0⟩ := jq oq0
  obtain rfl := fg or0
  have k1 := h1
  have lt1 : ∀ x ∈ p1, x.block < W.heap.size := by obtain ⟨m, hm⟩ := k1; exact DataW.trod_lt m _ _ _ hm
  obtain ⟨s1, rfl⟩ := okWide_int Tryz.underlying3 (hval 1 3 v1 rfl rfl)
  obtain ⟨fu1, hf1⟩ := h1
  obtain ⟨tvs1, ok1, cr1⟩ := NB (E := E Ak) (kinds := kinds) (Yc _) (JK _) (MS _) (G := fun c => c ∈ ([] : List K)) (by intro c hc; cases c <;> first | exact absurd hc (by decide) | exact ⟨rfl, fun d hd => by revert hd; simp [kinds]⟩) fu1 40 3 _ _ [.int .i64] hf1 (by kernel_rfl) (by intro c hc; cases c <;> first | decide | (exfalso; revert hc; simp; done) | (exfalso; rcases List.mem_singleton.1 hc with h; cases h))
  obtain ⟨y1, yr1, rfl, oq1, or1⟩ := ar ok1
  obtain ⟨a1, rfl, wf1⟩ := bJ oq1
  obtain rfl := fg or1
  have k2 := h2
  have lt2 : ∀ x ∈ p2, x.block < W.heap.size := by obtain ⟨m, hm⟩ := k2; exact DataW.trod_lt m _ _ _ hm
  obtain ⟨s2, rfl⟩ := okWide_int Tryz.underlying3 (hval 2 3 v2 rfl rfl)
  obtain ⟨fu2, hf2⟩ := h2
  obtain ⟨tvs2, ok2, cr2⟩ := NB (E := E Ak) (kinds := kinds) (Yc _) (JK _) (MS _) (G := fun c => c ∈ ([] : List K)) (by intro c hc; cases c <;> first | exact absurd hc (by decide) | exact ⟨rfl, fun d hd => by revert hd; simp [kinds]⟩) fu2 40 3 _ _ [.int .i64] hf2 (by kernel_rfl) (by intro c hc; cases c <;> first | decide | (exfalso; revert hc; simp; done) | (exfalso; rcases List.mem_singleton.1 hc with h; cases h))
  obtain ⟨y2, yr2, rfl, oq2, or2⟩ := ar ok2
  obtain ⟨a2, rfl, wf2⟩ := bJ oq2
  obtain rfl := fg or2
  clear hA0 hval0
  refine (UL (E := E Ak) (Je a0 a1 a2 wf0 wf1 wf2) W (vals := #[.slice s0 sl0 sc0, .int .i64 s1, .int .i64 s2]) ⟨RQ rfl cr0, ⟨RQ rfl cr1, ⟨RQ rfl cr2, trivial⟩⟩⟩).mono fun e W' ⟨he, bel⟩ => ?_
  subst he
  exact ⟨_, rfl, _, _, _, [], _, [], hW', trodAll_mk1 (shut_bool Tryz.underlying4 _), (trodAll_cons_mk (Below.trod laidOut (by kernel_rfl) (of_decide_eq_true (by kernel_rfl)) k0 bel lt0) (trodAll_cons_mk (Below.trod laidOut (by kernel_rfl) (of_decide_eq_true (by kernel_rfl)) k1 bel lt1) (trodAll_cons_mk (Below.trod laidOut (by kernel_rfl) (of_decide_eq_true (by kernel_rfl)) k2 bel lt2) trodAll_mk0))), rfl, bel.frame _, fun h => by cases h⟩
theorem over : Rows.soundSpoiltRow.holds Tryz.pinned (OpenSpec.ofChange Rows.soundSpoiltSpec) :=
  OpenClaim.holds_of_wide 4 Tryz.f4 rfl rfl rfl rfl rfl rfl rfl ⟨rfl, rfl, rfl, rfl, rfl⟩ rfl rfl rfl rfl rfl (by kernel_rfl) Tryz.func4 (by kernel_rfl)
    (of_decide_eq_true (by kernel_rfl)) (by unfold Func.isWrapper; first | (rw [if_pos (by decide +kernel)]; kernel_rfl) | (rw [if_neg (by decide +kernel)]; exact ⟨rfl, rfl⟩))
    (fun os started H enc _ => lifted os started H enc)
theorem proved : Rows.SoundSpoiltSaid := over
#print axioms proved
end Go.Proofs.YtcllbmdpckfnhaaGreat.soundSpoilt


