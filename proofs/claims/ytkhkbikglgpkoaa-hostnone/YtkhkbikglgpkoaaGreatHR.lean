/- HostNone: for every input the law returns true, and its arguments read as they did. -/
import Derived.Test.YtkhkbikglgpkoaaGreatHL
import Derived.Test.YtkhkbikglgpkoaaGreatTE25
import Derived.Test.YtkhkbikglgpkoaaGreatRows
import Derived.WalkKit
import Derived.ProofKit
import Derived.OpenShut
import Derived.ShutString
import Derived.Carry
namespace Go.Proofs.YtkhkbikglgpkoaaGreat.hostNone
open Go Go.ChangeShapes Go.WideShapes Go.ChangeAt Go.RowKit TE
set_option linter.unusedVariables false
/-- An environment for scalars alone. -/
noncomputable def SE : Sig := ⟨Empty, fun e => e.elim, inferInstance, fun e => e.elim⟩
noncomputable def EE : Env SE := { P := Tryz.prog, enc := fun c => c.elim, dec := fun c => c.elim, sz := fun c => c.elim, code := fun _ => none, keyTy := fun _ => none, callf := fun _ _ _ _ _ => none, asObj := fun _ _ => false }
theorem EE_ok : EnvOk EE where
  len c := c.elim
  pos c := c.elim
  mixed := Ho.hm
  size t c h := by cases h
  pure c := c.elim
  dec c := c.elim
  szle c := c.elim
  decLen c := c.elim
  keys kt ag sh h := by cases h
  sub := ⟨fun c => c.elim, fun c => c.elim, fun c => c.elim⟩
noncomputable def kE : SE.K → List (CK SE) := fun c => c.elim
theorem to_int {E : Env U} {M : Mem} {k : IntKind} {n : Int} {v : Value} (h : CR EE M (.int k n) v) : CR E M (.int k n) v := by cases h; exact .int _ _
theorem to_str {E : Env U} {M : Mem} {s : List UInt8} {v : Value} (h : CR EE M (.str s) v) : CR E M (.str s) v := by cases h; exact .str _
theorem own : ownKnob Tryz.prog.godebug = none := by kernel_rfl
theorem laidOut : laidOutB Tryz.prog = true := by kernel_rfl
set_option maxRecDepth 100000 in
theorem lifted (os : Os) (started : os.Started) (H : Type) (enc : TypeId × Value → H) :
    ReturnsInHanded {} Tryz.checked os 5 .any (Rows.hostNoneSpec.pre6 enc Tryz.prog Tryz.f5 Rows.hostNoneRow.domain false) (Rows.hostNoneSpec.post enc Tryz.prog Tryz.f5 false true false false) := by
  refine returnsInHanded_of_change (C := Tryz.checked) own started (by kernel_rfl) Tryz.func5
    (ChangeSpec.witness6 (enc := enc) (C := Tryz.checked) false ⟨#[], #[.agg #[.int .i64 0, .int .i64 0, .string ⟨#[]⟩, .int .i64 0], .int .i64 0, .int .i64 0], []⟩ 8 (by kernel_rfl) (by kernel_rfl) (by kernel_rfl) (by kernel_rfl)) ?_
  intro W base args ds gs before hval0 hW hcnd _
  have hval : ∀ (j : Nat) t v, Tryz.f5.params[j]? = some t → args[j]? = some v → Value.okWide Tryz.prog W .any base t v := hval0
  have hW' := hW
  obtain ⟨p, q, hA0, hV, rfl, hfz, hnd⟩ := hW
  have hA : DataW.TrodAll enc Tryz.prog W 0 (fun _ => true) true Tryz.f5.params.toList args.toList ds p := hA0
  rw [Tryz.params5] at hA hval
  obtain ⟨v0, vs0, d0, ds0, p0, q0, hargs, rfl, rfl, h0, r0⟩ := trodAll_cons hA
  obtain ⟨v1, vs1, d1, ds1, p1, q1, rfl, rfl, rfl, h1, r1⟩ := trodAll_cons r0
  obtain ⟨v2, vs2, d2, ds2, p2, q2, rfl, rfl, rfl, h2, r2⟩ := trodAll_cons r1
  obtain ⟨rfl, rfl, rfl⟩ := trodAll_nil r2
  obtain rfl : args = #[v0, v1, v2] := by cases args; simp_all
  obtain ⟨rfl, rfl⟩ := trodVars_none hV
  have k0 := h0
  have lt0 : ∀ x ∈ p0, x.block < W.heap.size := by obtain ⟨m, hm⟩ := k0; exact DataW.trod_lt m _ _ _ hm
  obtain ⟨c0, rfl, _⟩ := okWide_struct Tryz.underlying78 (hval 0 78 v0 rfl rfl)
  obtain ⟨fu0, hf0⟩ := h0
  obtain ⟨tvs0, ok0, cr0⟩ := trod_tv (E := EE) (kinds := kE) EE_ok (fun c => c.elim) (fun c => c.elim) (G := fun c => c.elim) (fun c => c.elim) fu0 40 78 _ _ [.int .i64, .int .i64, .str, .int .i64] hf0 (by kernel_rfl) (fun c => c.elim)
  obtain ⟨y0, yr0, rfl, oq0, or0⟩ := all2_cons ok0
  obtain ⟨a0, rfl, wf0⟩ := okN_int oq0
  obtain ⟨y1, yr1, rfl, oq1, or1⟩ := all2_cons or0
  obtain ⟨a1, rfl, wf1⟩ := okN_int oq1
  obtain ⟨y2, yr2, rfl, oq2, or2⟩ := all2_cons or1
  obtain ⟨a2, rfl, wf2⟩ := okN_str oq2
  obtain ⟨y3, yr3, rfl, oq3, or3⟩ := all2_cons or2
  obtain ⟨a3, rfl, wf3⟩ := okN_int oq3
  obtain rfl := all2_nil or3
  have k1 := h1
  have lt1 : ∀ x ∈ p1, x.block < W.heap.size := by obtain ⟨m, hm⟩ := k1; exact DataW.trod_lt m _ _ _ hm
  obtain ⟨s1, rfl⟩ := okWide_int Tryz.underlying3 (hval 1 3 v1 rfl rfl)
  have k2 := h2
  have lt2 : ∀ x ∈ p2, x.block < W.heap.size := by obtain ⟨m, hm⟩ := k2; exact DataW.trod_lt m _ _ _ hm
  obtain ⟨s2, rfl⟩ := okWide_int Tryz.underlying3 (hval 2 3 v2 rfl rfl)
  clear hA0 hval0
  have cr1 : all2 (CR Ho.E0 (fun b off => W.cell? (at_ b off))) [.int .i64 a0, .int .i64 a1, .str a2, .int .i64 a3] (Value.agg c0).cells.toList := by
    revert cr0
    generalize (Value.agg c0).cells.toList = l
    intro cr0
    match l, cr0 with
    | [_, _, _, _], ⟨e0, e1, e2, e3, _⟩ => exact ⟨to_int e0, to_int e1, to_str e2, to_int e3, trivial⟩
  refine (calls_law (E := Ho.E0) (Ho.law_ok a0 a1 a2 a3 s1 s2) W (vals := #[.agg c0, .int .i64 s1, .int .i64 s2]) ⟨vr_agg cr1, .pure (.int _ _), .pure (.int _ _), trivial⟩).mono fun e W' ⟨he, bel⟩ => ?_
  subst he
  exact ⟨_, rfl, _, _, _, [], _, [], hW', trodAll_mk1 (shut_bool Tryz.underlying4 _), (trodAll_cons_mk (Below.trod laidOut (by kernel_rfl) (of_decide_eq_true (by kernel_rfl)) k0 bel lt0) (trodAll_cons_mk (Below.trod laidOut (by kernel_rfl) (of_decide_eq_true (by kernel_rfl)) k1 bel lt1) (trodAll_cons_mk (Below.trod laidOut (by kernel_rfl) (of_decide_eq_true (by kernel_rfl)) k2 bel lt2) trodAll_mk0))), rfl, bel.frame _, fun h => by cases h⟩
theorem fnm : Tryz.pinned.checked.prog.funcNamed Rows.hostNoneRow.func = some 5 := by kernel_rfl
theorem f_inPlace : (Rows.hostNoneRow.inPlace == Tryz.pinned.checked.prog.inPlace 5) = true := by kernel_rfl
theorem f_unf : (Rows.hostNoneRow.unfollowed == Tryz.pinned.checked.prog.unfollowed 5) = true := by kernel_rfl
theorem f_rcs : (Rows.hostNoneRow.recurses == Tryz.pinned.checked.prog.recurses 5) = true := by kernel_rfl
theorem f_nmd : (Rows.hostNoneRow.named == Tryz.pinned.checked.prog.varsNamed 5) = true := by kernel_rfl
theorem f_pk : (Rows.hostNoneRow.plainKeys == Tryz.pinned.checked.prog.plainKeys) = true := by kernel_rfl
theorem f_lo : (laidOutB Tryz.pinned.checked.prog) = true := by kernel_rfl
theorem f_mr : (mapsRowed Tryz.pinned.checked.prog) = true := by kernel_rfl
theorem f_sh : (Tryz.pinned.checked.prog.stopsHeard) = true := by kernel_rfl
theorem f_me : (Tryz.pinned.checked.prog.mayEnter) = true := by kernel_rfl
theorem f_lf : (Rows.hostNoneRow.lifted == Tryz.pinned.checked.prog.liftsFinal) = true := by kernel_rfl
theorem closed : joinedFacts Tryz.pinned.checked.prog 5 Tryz.f5 Rows.hostNoneSpec Rows.hostNoneRow = true := by
  unfold joinedFacts
  rw [f_inPlace, f_unf, f_rcs, f_nmd, f_pk, f_lo, f_mr, f_sh, f_me, f_lf]
  kernel_rfl
theorem over : Rows.hostNoneRow.holds Tryz.pinned (OpenSpec.ofChange Rows.hostNoneSpec) :=
  OpenClaim.holds_of_wide 5 Tryz.f5 rfl rfl rfl rfl rfl rfl rfl ⟨rfl, rfl, rfl, rfl, rfl⟩ rfl rfl rfl rfl rfl fnm Tryz.func5 closed
    (of_decide_eq_true (by kernel_rfl)) (by unfold Func.isWrapper; first | (rw [if_pos (by decide +kernel)]; kernel_rfl) | (rw [if_neg (by decide +kernel)]; exact ⟨rfl, rfl⟩))
    (fun os started H enc _ => lifted os started H enc)
theorem proved : Rows.HostNoneSaid := over
#print axioms proved
end Go.Proofs.YtkhkbikglgpkoaaGreat.hostNone
