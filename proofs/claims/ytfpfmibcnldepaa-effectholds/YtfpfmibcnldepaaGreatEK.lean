/- The chapter's example: a closed run, over all orders of the ranges over maps. -/
import Derived.Test.YtfpfmibcnldepaaGreatEB
set_option maxRecDepth 100000
set_option linter.unusedVariables false
namespace Ef
open Go TE Go.Proofs
theorem hint_ok (P : Program) (own : FuncId → Nat → Bool) : HintOk (uHint P own) := by
  intro f
  unfold uHint
  split
  · refine ⟨rfl, ?_, fun _ => rfl⟩
    intro cur h e
    cases e
    rfl
  · refine ⟨rfl, ?_, fun _ => rfl⟩
    intro cur h e
    cases e
theorem known_run : uRunM Tryz.prog (fun _ _ => false) (uHint Tryz.prog fun _ _ => true) 30 30 4 = true := by kernel_rfl
theorem known_ok : CallOK E0 4 [] [] ⟨.bool true, some [], []⟩ := uRunM_ok (by kernel_rfl) (hint_ok _ _) known_run rfl
noncomputable def l30_known {R : Type} (N : Nat) (k0 : Bool → Option R) : Option R := k0 true
noncomputable def l30_known_S (N : Nat) : OC E0 := ⟨⟨4, ⟨[], []⟩, fun R k => l30_known N (oK ⟨.b, [], []⟩ k)⟩, fun R x k r h => ⟨_, h, known_ok⟩⟩
end Ef

