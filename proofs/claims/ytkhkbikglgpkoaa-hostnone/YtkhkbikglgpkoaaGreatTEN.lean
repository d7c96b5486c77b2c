/- TE: closed runs that go all ways. -/
import Derived.Test.YtkhkbikglgpkoaaGreatTE22
namespace TE
open Go
variable {S : Sig} {E : Env S}

/-- A table of contracts with many outcomes of which every row is so. -/
def TabMOK (E : Env S) (g : Callf S) : Prop :=
  ∀ (f : FuncId) (args : List (TV S)) (objs : List (Obj S)) (R : Type) [Subsingleton R] (k : Res S → Option R) (r : R), g f args objs R k = some r → CallOKs E f args objs fun res => k res = some r
theorem CallOKs.toCall {g : Callf S} {f : FuncId} {args : List (TV S)} {objs : List (Obj S)} {Q : Res S → Prop} (h : CallOKs E f args objs Q) : CallOKs (E.withCall g) f args objs Q :=
  CallOKs.unCall (E := E.withCall g) (g := E.callf) h
def mHint (h : Hint S) (gm : Callf S) : Hint S := { h with nd := true, multi := fun _ => true, callm := gm }
def bodyM (E : Env S) (hint : FuncId → Hint S) (N : Nat) (g gm : Callf S) : Callf S := fun f args objs _ k =>
  match E.P.funcs[f]? with
  | some fn => if (fn.name == "runtime.NumGoroutine") = true then none else runFn (E.withCall g) (mHint (hint f) gm) N fn args objs k
  | none => none
theorem bodyM_ok (hE : EnvOk E) {hint : FuncId → Hint S} (hH : HintOk hint) {N : Nat} {g gm : Callf S} (hg : TabOK E g) (hgm : TabMOK E gm) : TabMOK E (bodyM E hint N g gm) := by
  intro f args objs R _ k r h
  unfold bodyM at h
  split at h
  · rename_i fn hfn
    split at h
    · cases h
    · rename_i hname
      exact (runFn_nd hE.withCall hg.callf (H := mHint (hint f) gm) (fun f args objs R _ k r hk => (hgm f args objs R k r hk).toCall) (f := f) hfn (by simpa using hname) (fun c _ => loopsOK_none (H := mHint (hint f) gm) (hH f).2.1 c 0 (hH f).2.2) h).unCall
  · cases h
def tabM (E : Env S) (hint : FuncId → Hint S) (N : Nat) : Nat → Callf S
  | 0 => noCalls
  | n + 1 => bodyM E hint N (tabN E hint N (fun _ => false) noCalls n) (tabM E hint N n)
theorem tabM_ok (hE : EnvOk E) {hint : FuncId → Hint S} (hH : HintOk hint) {N : Nat} : ∀ n, TabMOK E (tabM E hint N n)
  | 0 => fun _ _ _ _ _ _ _ h => by cases h
  | n + 1 => bodyM_ok hE hH (tabN_ok hE hH noCalls_ok n) (tabM_ok hE hH n)
def uRunM (P : Program) (asObj : FuncId → Nat → Bool) (hint : FuncId → Hint U) (N n : Nat) (f : FuncId) : Bool :=
  (tabM (uEnv P asObj noCalls) hint N n f [] [] Unit saysTrue).isSome
/-- A closed run that goes all ways: the call answers true, in every environment of the program. -/
theorem uRunM_ok {P : Program} {asObj : FuncId → Nat → Bool} {hint : FuncId → Hint U} {N n : Nat} {f : FuncId} (hm : P.follows .mixedOrders = true) (hH : HintOk hint) (h : uRunM P asObj hint N n f = true) (hP : E.P = P) :
    CallOK E f [] [] ⟨.bool true, some [], []⟩ := by
  unfold uRunM at h
  obtain ⟨r, hr⟩ := Option.isSome_iff_exists.1 h
  have hc := tabM_ok (uEnv_ok hm) hH n f [] [] Unit saysTrue r hr
  refine ⟨by rw [hP]; exact hc.1, fun B vals hB hl hv hW => ?_⟩
  rw [hP]
  refine (hc.2 B vals hB hl (fun i tv v h1 => by simp at h1) ?_).mono ?_
  · exact ⟨fun nm x hx => by simp at hx, fun nm _ => hW.fresh nm (by simp), fun nm nm' x x' b f f' hx => by simp at hx, fun nm x b f off hx => by simp at hx, hW.mval, hW.os, hW.tape, hW.output, hW.size, hW.kept, fun nm x b f hx => by simp at hx, fun nm x b f hx => by simp at hx, hW.mle, hW.mnew, hW.ext, hW.drawn⟩
  · rintro e w' ⟨res, hres, v, φ', M', he, hv', hW'⟩
    have : res.v = .bool true := by
      unfold saysTrue at hres
      split at hres
      · assumption
      · cases hres
    rw [this] at hv'
    refine ⟨v, fun _ => none, M', he, ?_, ?_⟩
    · rw [hv'.bool]; exact .pure (.bool true)
    · exact ⟨fun nm x hx => by simp at hx, fun _ _ => rfl, fun nm nm' x x' b f f' hx => by simp at hx, fun nm x b f off hx => by simp at hx, hW'.mval, hW'.os, hW'.tape, hW'.output, hW'.size, hW'.kept, fun nm x b f hx => by simp at hx, fun nm x b f hx => by simp at hx, hW'.mle, hW'.mnew, fun n hn => absurd hn (by rw [hB]; simp), hW'.drawn⟩
end TE
