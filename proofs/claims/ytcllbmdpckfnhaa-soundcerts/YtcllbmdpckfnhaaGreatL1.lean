/- SoundTells in plain words: the law's function answers true. -/
import Derived.Test.YtcllbmdpckfnhaaGreatPG
import Derived.Test.YtcllbmdpckfnhaaGreatT41
set_option maxRecDepth 1000000
set_option linter.unusedVariables false
namespace So
open Go TE Go.Proofs
theorem Om {R : Type} (k : Bool → Option R) : l12_known big k = k true := by kernel_rfl
end So
