/- Effect: slices.SortFunc at rows of marks. -/
import Derived.Test.YtfpfmibcnldepaaGreatES2
set_option linter.unusedVariables false
namespace Ef
open Go TE Go.Proofs Go.Sort
theorem c31N (N : Nat) (h3 : 3 < N) (a b : List Mark) (hn : a.length < N) (ha : a.length < big) : CallOK E0 23 [.tree .mark a, .tree .mark b] [] ⟨.int .i64 (cM a b), some [], []⟩ := by
  obtain ⟨res, h1, h2⟩ := (effect_order_S N).2 (Res S) ((a, b, ()), ()) some ⟨.int .i64 (cM a b), some [], []⟩ (order_cM h3 a b hn ha _)
  cases h1
  exact h2
theorem c31 (a b : List Mark) (ha : a.length < big) : CallOK E0 23 [.tree .mark a, .tree .mark b] [] ⟨.int .i64 (cM a b), some [], []⟩ := c31N (a.length + 4) (by omega) a b (by omega) ha
theorem c30 (xs : List (List Mark)) (hx : ∀ x ∈ xs, x.length < big) (h : xs.length < 4611686018427387904) : CallOK E0 22 [.slw 0, .fn 23 []] [.row .marks xs .own] ⟨.tup [], some [.row .marks (xs.mergeSort fun x y => !(Go.Proofs.ltOf cM) y x) .own], []⟩ :=
  TE.sort_call1 (E := E0) (c := (K.marks : S.K)) (cf := cM) (xs := xs) (g := 23) (f := 22) e0 rfl El.sortMarks rfl swoM (fun x y h1 h2 => lessM_tot x y ((lt_cM x y).symm.trans h1) ((lt_cM y x).symm.trans h2))
    (enters_of Tryz.func23 (by kernel_rfl) rfl) (fun x hx' y _ => c31 x y (hx x hx')) ⟨Tryz.f22, by kernel_rfl, by kernel_rfl, by kernel_rfl⟩ h
end Ef

