/- TE: ranges over maps that go all ways. -/
import Derived.Test.YtcllbmdpckfnhaaGreatTE18
namespace TE
open Go
variable {S : Sig} {E : Env S}
end TE
