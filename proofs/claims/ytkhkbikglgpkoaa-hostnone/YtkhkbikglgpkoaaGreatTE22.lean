/- TE: a function's loops, one by one. -/
import Derived.Test.YtkhkbikglgpkoaaGreatTE21
import Derived.KernelRfl
namespace TE
open Go
variable {S : Sig} {E : Env S}

def loopAt (id : Nat) : Code → Option Code
  | .seq a b => match loopAt id a with | some c => some c | none => loopAt id b
  | .cond _ a b => match loopAt id a with | some c => some c | none => loopAt id b
  | .block i c => match c with
    | .loop d => bif Nat.beq i id then some d else loopAt id d
    | c => loopAt id c
  | .loop c => loopAt id c
  | _ => none
/-- A code's loops: the block of each, and its body. -/
def loopsOf : Code → Nat → List (Nat × Code)
  | .seq a b, cur => loopsOf a cur ++ loopsOf b cur
  | .cond _ a b, cur => loopsOf a cur ++ loopsOf b cur
  | .block id c, _ => loopsOf c id
  | .loop c, cur => (cur, c) :: loopsOf c cur
  | _, _ => []
/-- The second parts of rows of code that begin with one of these regions: the block about each, and it. -/
def cutsOf (ids : List Nat) : Code → Nat → List (Nat × Code)
  | .seq a b, cur => (match firstReg b with
    | some i => bif ids.contains i then [(cur, b)] else []
    | none => []) ++ (cutsOf ids a cur ++ cutsOf ids b cur)
  | .cond _ a b, cur => cutsOf ids a cur ++ cutsOf ids b cur
  | .block id c, _ => cutsOf ids c id
  | .loop c, cur => cutsOf ids c cur
  | _, _ => []
def cutCode (id : Nat) : Code → Option Code
  | .seq a b => (match firstReg b with
    | some i => bif Nat.beq i id then some b else match cutCode id a with | some c => some c | none => cutCode id b
    | none => match cutCode id a with | some c => some c | none => cutCode id b)
  | .cond _ a b => match cutCode id a with | some c => some c | none => cutCode id b
  | .block _ c => cutCode id c
  | .loop c => cutCode id c
  | _ => none
theorem loopsOK_all {H : Hint S} {m nt N : Nat} (ids : List Nat) (hids : ∀ i, ids.contains i = false → H.cuts i = none) : ∀ (c : Code) (cur : Nat), (∀ p ∈ loopsOf c cur, ∀ h L, H.loops p.1 = some h → h.oracle = some L → ∀ (R : Type) (vals : List (TV S)) (objs : List (Obj S)) (K : Ex → List (TV S) → List (Obj S) → Option R) (r : R), L R vals objs K = some r →
      loopN (fun vals objs k => tcode E H m nt N p.2 p.1 (mkSt h.live vals objs) k) (headOf m h.live h.fix) (fun e => headOf m (h.out e).1 (h.out e).2) N vals objs K = some r) →
    (∀ p ∈ cutsOf ids c cur, ∀ J L, cutAt H p.2 = some J → J.oracle = some L → ∀ (R : Type) (vals : List (TV S)) (objs : List (Obj S)) (K : Ex → List (TV S) → List (Obj S) → Option R) (r : R), L R vals objs K = some r →
      tcode E H m nt N p.2 p.1 (mkSt J.live vals objs) (cutK m J.out K) = some r) → LoopsOK E H m nt N c cur := by
  intro c
  induction c with
  | seq a b iha ihb =>
    refine fun cur h hc => ⟨iha cur (fun p hp => h p (List.mem_append_left _ hp)) fun p hp => hc p (List.mem_append_right _ (List.mem_append_left _ hp)), ihb cur (fun p hp => h p (List.mem_append_right _ hp)) fun p hp => hc p (List.mem_append_right _ (List.mem_append_right _ hp)), fun J L h1 h2 => ?_⟩
    refine hc (cur, b) (List.mem_append_left _ ?_) J L h1 h2
    have h1' := h1
    unfold cutAt at h1'
    split at h1'
    · rename_i i hi
      cases hm : ids.contains i with
      | true =>
        rw [hi]
        show (cur, b) ∈ (bif ids.contains i then [(cur, b)] else [])
        rw [hm]; exact List.mem_singleton.2 rfl
      | false => rw [hids i hm] at h1'; cases h1'
    · cases h1'
  | cond c a b iha ihb => exact fun cur h hc => ⟨iha cur (fun p hp => h p (List.mem_append_left _ hp)) fun p hp => hc p (List.mem_append_left _ hp), ihb cur (fun p hp => h p (List.mem_append_right _ hp)) fun p hp => hc p (List.mem_append_right _ hp)⟩
  | block id c ih => exact fun cur h hc => ih id h hc
  | loop c ih => exact fun cur h hc => ⟨ih cur (fun p hp => h p (List.mem_cons_of_mem _ hp)) hc, fun hh L h1 h2 => h (cur, c) (List.mem_cons_self ..) hh L h1 h2⟩
  | _ => exact fun _ _ _ => trivial
theorem cutsOf_nil : ∀ (c : Code) (cur : Nat), cutsOf [] c cur = [] := by
  intro c
  induction c with
  | seq a b iha ihb =>
    intro cur
    simp only [cutsOf, iha, ihb, List.append_nil]
    split <;> rfl
  | cond c a b iha ihb => intro cur; simp only [cutsOf, iha, ihb, List.append_nil]
  | block id c ih => intro cur; simp only [cutsOf, ih]
  | loop c ih => intro cur; simp only [cutsOf, ih]
  | _ => intro cur; rfl
theorem loopsOK_of {H : Hint S} {m nt N : Nat} (c : Code) (cur : Nat) (h : ∀ p ∈ loopsOf c cur, ∀ h L, H.loops p.1 = some h → h.oracle = some L → ∀ (R : Type) (vals : List (TV S)) (objs : List (Obj S)) (K : Ex → List (TV S) → List (Obj S) → Option R) (r : R), L R vals objs K = some r →
      loopN (fun vals objs k => tcode E H m nt N p.2 p.1 (mkSt h.live vals objs) k) (headOf m h.live h.fix) (fun e => headOf m (h.out e).1 (h.out e).2) N vals objs K = some r) (hids : ∀ i, H.cuts i = none := by intros; rfl) : LoopsOK E H m nt N c cur :=
  loopsOK_all [] (fun i _ => hids i) c cur h fun p hp => by rw [cutsOf_nil] at hp; cases hp

/-- A contract out of a run that comes to one result. -/
theorem callOK_of_run (hE : EnvOk E) {g : Callf S} (hg : TabOK E g) {H : Hint S} (hnd : H.nd = false) {N : Nat} {f : FuncId} {fn : Func} {args : List (TV S)} {objs : List (Obj S)} {res : Res S} (hfn : E.P.funcs[f]? = some fn) (hname : (fn.name == "runtime.NumGoroutine") = false)
    (hLo : ∀ c, fn.body = some c → LoopsOK (E.withCall g) H objs.length fn.ntmps N c 0) (h : runFn (E.withCall g) H N fn args objs some = some res) : CallOK E f args objs res := by
  obtain ⟨res', h1, h2⟩ := runFn_sound hE.withCall hg.callf hnd (f := f) hfn hname hLo h
  cases h1
  exact h2.unCall
theorem CallOKs.unCall {g : Callf S} {f : FuncId} {args : List (TV S)} {objs : List (Obj S)} {Q : Res S → Prop} (h : CallOKs (E.withCall g) f args objs Q) : CallOKs E f args objs Q := by
  refine ⟨h.1, fun B vals hm hl hv hW => ?_⟩
  have back : (E.withCall g).withCall E.callf = E := rfl
  refine (h.2 B vals hm hl (fun i tv v h1 h2 => (hv i tv v h1 h2).withCall) hW.withCall).mono ?_
  rintro e w' ⟨res, hr, v, φ', M', he, hv', hW'⟩
  have h1 := hv'.withCall (g := E.callf)
  have h2 := hW'.withCall (g := E.callf)
  rw [back] at h1 h2
  exact ⟨res, hr, v, φ', M', he, h1, h2⟩
theorem callOKs_of_run (hE : EnvOk E) {g : Callf S} (hg : TabOK E g) {H : Hint S} {N : Nat} {f : FuncId} {fn : Func} {args : List (TV S)} {objs : List (Obj S)} {K : Res S → Option Unit} (hfn : E.P.funcs[f]? = some fn) (hname : (fn.name == "runtime.NumGoroutine") = false)
    (hLo : ∀ c, fn.body = some c → LoopsOK (E.withCall g) H objs.length fn.ntmps N c 0) (h : runFn (E.withCall g) H N fn args objs K = some ()) (hm : CallmOK (E.withCall g) H := by exact CallmOK.none) : CallOKs E f args objs fun res => K res = some () :=
  (runFn_nd hE.withCall hg.callf hm (f := f) hfn hname hLo h).unCall

open Classical in
noncomputable def quietK {R : Type} (objs : List (Obj S)) (k : Res S → Option R) (res : Res S) : Option R := if res.xs = some objs then k ⟨res.v, none, res.ns⟩ else none
theorem quietK_eq {R : Type} (objs : List (Obj S)) (k : Res S → Option R) (v : TV S) (ns : List (Obj S)) : quietK objs k ⟨v, some objs, ns⟩ = k ⟨v, none, ns⟩ := if_pos rfl
theorem quiet_ok {R : Type} {f : FuncId} {args : List (TV S)} {objs : List (Obj S)} {k : Res S → Option R} {r : R} {res : Res S} (h : quietK objs k res = some r) (hc : CallOK E f args objs res) : ∃ res', k res' = some r ∧ CallOK E f args objs res' := by
  unfold quietK at h
  split at h
  · rename_i hx
    obtain ⟨v, xs, ns⟩ := res
    simp only at hx
    subst hx
    exact ⟨_, h, hc⟩
  · cases h
end TE
