/- SoundCerts: for every input the law returns true, and its arguments read as they did. -/
import Derived.Test.YtcllbmdpckfnhaaGreatL3
import Derived.Test.YtcllbmdpckfnhaaGreatRows
import Derived.WalkKit
import Derived.ProofKit
import Derived.OpenShut
import Derived.ShutString
import Derived.Carry
namespace Go.Proofs.YtcllbmdpckfnhaaGreat.soundCerts
open Go Go.ChangeShapes Go.WideShapes Go.ChangeAt Go.RowKit TE So
set_option linter.unusedVariables false
theorem own : ownKnob Tryz.prog.godebug = none := by kernel_rfl
theorem laidOut : laidOutB Tryz.prog = true := by kernel_rfl
set_option maxRecDepth 100000 in
theorem lifted (os : Os) (started : os.Started) (H : Type) (enc : TypeId × Value → H) :
    ReturnsInHanded {} Tryz.checked os 6 .any (Rows.soundCertsSpec.pre6 enc Tryz.prog Tryz.f6 Rows.soundCertsRow.domain false) (Rows.soundCertsSpec.post enc Tryz.prog Tryz.f6 false true false false) := by
  refine returnsInHanded_of_change (C := Tryz.checked) own started (by kernel_rfl) Tryz.func6
    (ChangeSpec.witness6 (enc := enc) (C := Tryz.checked) false ⟨#[], #[.int .i64 0, .int .i64 0, .bool false], []⟩ 8 (by kernel_rfl) (by kernel_rfl) (by kernel_rfl) (by kernel_rfl)) ?_
  intro W base args ds gs before hval0 hW hcnd _
  have hval : ∀ (j : Nat) t v, Tryz.f6.params[j]? = some t → args[j]? = some v → Value.okWide Tryz.prog W .any base t v := hval0
  have hW' := hW
  obtain ⟨p, q, hA0, hV, rfl, hfz, hnd⟩ := hW
  have hA : DataW.TrodAll enc Tryz.prog W 0 (fun _ => true) true Tryz.f6.params.toList args.toList ds p := hA0
  rw [Tryz.params6] at hA hval
  obtain ⟨v0, vs0, d0, ds0, p0, q0, hargs, rfl, rfl, h0, r0⟩ := trodAll_cons hA
  obtain ⟨v1, vs1, d1, ds1, p1, q1, rfl, rfl, rfl, h1, r1⟩ := trodAll_cons r0
  obtain ⟨v2, vs2, d2, ds2, p2, q2, rfl, rfl, rfl, h2, r2⟩ := trodAll_cons r1
  obtain ⟨rfl, rfl, rfl⟩ := trodAll_nil r2
  obtain rfl : args = #[v0, v1, v2] := by cases args; simp_all
  obtain ⟨rfl, rfl⟩ := trodVars_none hV
  have k0 := h0
  have lt0 : ∀ x ∈ p0, x.block < W.heap.size := by obtain ⟨m, hm⟩ := k0; exact DataW.trod_lt m _ _ _ hm
  obtain ⟨s0, rfl⟩ := okWide_int Tryz.underlying3 (hval 0 3 v0 rfl rfl)
  obtain ⟨fu0, hf0⟩ := h0
  obtain ⟨tvs0, ok0, cr0⟩ := Ic (E := E wz) (kinds := kinds) (RZ _) (EA _) (Ht _) (G := fun c => c ∈ ([] : List K)) (by intro c hc; cases c <;> first | exact absurd hc (by decide) | exact ⟨rfl, fun d hd => by revert hd; simp [kinds]⟩) fu0 40 3 _ _ [.int .i64] hf0 (by kernel_rfl) (by intro c hc; revert hc; simp)
  obtain ⟨y0, yr0, rfl, oq0, or0⟩ := ah ok0
  obtain ⟨a0, rfl, wf0⟩ := bB oq0
  obtain rfl := eH or0
  have k1 := h1
  have lt1 : ∀ x ∈ p1, x.block < W.heap.size := by obtain ⟨m, hm⟩ := k1; exact DataW.trod_lt m _ _ _ hm
  obtain ⟨s1, rfl⟩ := okWide_int Tryz.underlying3 (hval 1 3 v1 rfl rfl)
  obtain ⟨fu1, hf1⟩ := h1
  obtain ⟨tvs1, ok1, cr1⟩ := Ic (E := E wz) (kinds := kinds) (RZ _) (EA _) (Ht _) (G := fun c => c ∈ ([] : List K)) (by intro c hc; cases c <;> first | exact absurd hc (by decide) | exact ⟨rfl, fun d hd => by revert hd; simp [kinds]⟩) fu1 40 3 _ _ [.int .i64] hf1 (by kernel_rfl) (by intro c hc; revert hc; simp)
  obtain ⟨y1, yr1, rfl, oq1, or1⟩ := ah ok1
  obtain ⟨a1, rfl, wf1⟩ := bB oq1
  obtain rfl := eH or1
  have k2 := h2
  have lt2 : ∀ x ∈ p2, x.block < W.heap.size := by obtain ⟨m, hm⟩ := k2; exact DataW.trod_lt m _ _ _ hm
  obtain ⟨s2, rfl⟩ := okWide_bool Tryz.underlying4 (hval 2 4 v2 rfl rfl)
  obtain ⟨fu2, hf2⟩ := h2
  obtain ⟨tvs2, ok2, cr2⟩ := Ic (E := E wz) (kinds := kinds) (RZ _) (EA _) (Ht _) (G := fun c => c ∈ ([] : List K)) (by intro c hc; cases c <;> first | exact absurd hc (by decide) | exact ⟨rfl, fun d hd => by revert hd; simp [kinds]⟩) fu2 40 4 _ _ [.bool] hf2 (by kernel_rfl) (by intro c hc; revert hc; simp)
  obtain ⟨y2, yr2, rfl, oq2, or2⟩ := ah ok2
  obtain ⟨a2, rfl⟩ := QD oq2
  obtain rfl := eH or2
  clear hA0 hval0
  refine (NX (E := E wz) (FI a0 a1 a2 wf0 wf1) W (vals := #[.int .i64 s0, .int .i64 s1, .bool s2]) ⟨LC rfl cr0, ⟨LC rfl cr1, ⟨LC rfl cr2, trivial⟩⟩⟩).mono fun e W' ⟨he, bel⟩ => ?_
  subst he
  exact ⟨_, rfl, _, _, _, [], _, [], hW', trodAll_mk1 (shut_bool Tryz.underlying4 _), (trodAll_cons_mk (Below.trod laidOut (by kernel_rfl) (of_decide_eq_true (by kernel_rfl)) k0 bel lt0) (trodAll_cons_mk (Below.trod laidOut (by kernel_rfl) (of_decide_eq_true (by kernel_rfl)) k1 bel lt1) (trodAll_cons_mk (Below.trod laidOut (by kernel_rfl) (of_decide_eq_true (by kernel_rfl)) k2 bel lt2) trodAll_mk0))), rfl, bel.frame _, fun h => by cases h⟩
theorem over : Rows.soundCertsRow.holds Tryz.pinned (OpenSpec.ofChange Rows.soundCertsSpec) :=
  OpenClaim.holds_of_wide 6 Tryz.f6 rfl rfl rfl rfl rfl rfl rfl ⟨rfl, rfl, rfl, rfl, rfl⟩ rfl rfl rfl rfl rfl (by kernel_rfl) Tryz.func6 (by kernel_rfl)
    (of_decide_eq_true (by kernel_rfl)) (by unfold Func.isWrapper; first | (rw [if_pos (by decide +kernel)]; kernel_rfl) | (rw [if_neg (by decide +kernel)]; exact ⟨rfl, rfl⟩))
    (fun os started H enc _ => lifted os started H enc)
theorem proved : Rows.SoundCertsSaid := over
#print axioms proved
end Go.Proofs.YtcllbmdpckfnhaaGreat.soundCerts

