/- TE: maps of which order and stamps are let go, or chosen. -/
import Derived.Test.YtfpfmibcnldepaaGreatTE20
import Derived.Test.YtfpfmibcnldepaaGreatTE19
namespace TE
open Go
variable {S : Sig} {E : Env S}

/-- What is known of y is known of x. -/
inductive ObjLe : Obj S → Obj S → Prop
  | refl (x : Obj S) : ObjLe x x
  | map (ag : Bool) (sh : List ScK) (vag : Bool) (vc : S.K) (L L2 : List (List Sc × S.El vc × Nat)) (ex : Bool) (cl cl2 : Nat) (h : (L.map fun t => (t.1, t.2.1)).Perm (L2.map fun t => (t.1, t.2.1))) :
      ObjLe (.mapo ag sh vag vc L ex cl) (.mapo ag sh vag vc L2 false cl2)
end TE

