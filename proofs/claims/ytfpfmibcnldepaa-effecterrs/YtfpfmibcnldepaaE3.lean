/- EffectOrder in plain words: both orders are the order by places. -/
import Derived.Test.YtfpfmibcnldepaaE2x1
set_option maxRecDepth 100000
set_option linter.unusedVariables false
set_option linter.unusedSimpArgs false
namespace Ef
open Go TE Go.Proofs
def big : Nat := 1000000000
theorem wr (n : Int) (h1 : -9223372036854775808 ≤ n) (h2 : n ≤ 9223372036854775807) : IntKind.wrap .i64 n = n := IntWalk.i64_in _ ⟨h1, h2⟩
theorem at_nat {α : Type} (l : List α) (i : Nat) : at? l (i : Int) = l[i]? := by unfold at?; rw [if_neg (by omega)]; simp
theorem drop_cons {α : Type} {l : List α} {i : Nat} (h : i < l.length) : ∃ x, l[i]? = some x ∧ l.drop i = x :: l.drop (i + 1) :=
  ⟨l[i], List.getElem?_eq_getElem h, List.drop_eq_getElem_cons h⟩
section
variable {R : Type} {N : Nat}
end
end Ef

