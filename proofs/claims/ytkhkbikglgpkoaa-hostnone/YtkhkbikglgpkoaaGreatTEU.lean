/- TE: one environment for every program, slices in raw cells: for closed runs. -/
import Derived.Test.YtkhkbikglgpkoaaGreatTEN
namespace TE
open Go
/-- Slices in raw cells. -/
def uEnvR (P : Program) (g : Callf U) : Env U := { uEnv P (fun _ _ => false) g with raw := fun _ => true }
theorem uEnvR_ok {P : Program} {g : Callf U} (hm : P.follows .mixedOrders = true) : EnvOk (uEnvR P g) :=
  have h := uEnv_ok (P := P) (asObj := fun _ _ => false) (g := g) hm
  { len := h.len, pos := h.pos, mixed := h.mixed, size := h.size, pure := h.pure, dec := fun c cs x M i tv v h1 h2 h3 => by
      change (if cs.length = uSz P c then allFrom cs else none) = some x at h1
      split at h1
      · rename_i hl
        refine ⟨tv, ?_, h3⟩
        show (padTo (uSz P c) x)[i]? = some tv
        rw [← hl, allFrom_pad cs x h1]; exact h2
      · cases h1
    szle := h.szle, decLen := h.decLen, keys := h.keys, sub := ⟨fun _ _ _ _ h => (by cases h), fun _ _ _ _ _ _ _ h => (by cases h), fun _ _ _ _ _ h => (by cases h)⟩ }
/-- Does a closed run answer true? -/
def uRunR (P : Program) (hint : FuncId → Hint U) (N n : Nat) (f : FuncId) : Bool :=
  (tabN (uEnvR P noCalls) hint N (fun _ => false) noCalls n f [] [] Unit saysTrue).isSome
end TE
