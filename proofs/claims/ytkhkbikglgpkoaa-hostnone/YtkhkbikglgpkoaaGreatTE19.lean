/- TE: tables of calls; one environment for every program. -/
import Derived.Test.YtkhkbikglgpkoaaGreatTE20
import Derived.Test.YtkhkbikglgpkoaaGreatTEK
import Derived.Below
namespace TE
open Go Go.RowKit
variable {S : Sig}

abbrev Callf (S : Sig) := FuncId → List (TV S) → List (Obj S) → (R : Type) → (Res S → Option R) → Option R
def Env.withCall (E : Env S) (g : Callf S) : Env S := ⟨E.P, E.enc, E.dec, E.sz, E.code, E.keyTy, g, E.asObj, E.sub, E.raw⟩

section
variable {E : Env S} {g : Callf S}
theorem CR.withCall {M : Mem} {tv : TV S} {v : Value} (h : CR E M tv v) : CR (E.withCall g) M tv v := by
  induction h with
  | tree b o vs hcap ht ha hM hC ih => exact .tree b o vs hcap ht ha hM ih
  | _ => constructor
theorem VR.withCall {φ : Phi} {M : Mem} {tv : TV S} {v : Value} (h : VR E φ M tv v) : VR (E.withCall g) φ M tv v := by
  induction h with
  | dead v => exact .dead v
  | pure c => exact .pure c.withCall
  | ptr hg => exact .ptr hg
  | iptr b o vs hM hC => exact .iptr b o vs hM fun j tv e => (hC j tv e).withCall
  | slw hg hs => exact .slw hg hs
  | sl hg hs => exact .sl hg hs
  | rs hg h1 h2 h3 h4 => exact .rs hg h1 h2 h3 h4
  | map hg => exact .map hg
  | fn hl _ ih => exact .fn hl ih
  | mv hl _ ih => exact .mv hl ih
  | agg hl _ ih => exact .agg hl ih
  | tup hl _ ih => exact .tup hl ih
theorem DR.withCall {M : Mem} {w : World} {c : S.K} {xs : List (Option (S.El c))} {q : GI} (h : DR E M w c xs q) : DR (E.withCall g) M w c xs q := by
  induction h with
  | @mk c xs g vs G hL hs hle live cell val hsl sub dis out hF ih =>
    exact .mk vs G hL hs hle live cell (fun i x j tv hx hj h0 => (val i x j tv hx hj h0).withCall) hsl (fun i x j d ys hx hj h1 => ih i x j d ys hx hj h1) dis out hF
theorem ObjR.withCall {φ : Phi} {M : Mem} {w : World} {nm : Nat} {x : Obj S} (h : ObjR E φ M w nm x) : ObjR (E.withCall g) φ M w nm x := by
  have row : ∀ {b s : Nat} {c : S.K} {xs : List (S.El c)}, RowIn E M b s c xs → RowIn (E.withCall g) M b s c xs := fun h i x j tv hx hj => by
    obtain ⟨v, h1, h2⟩ := h i x j tv hx hj
    exact ⟨v, h1, h2.withCall⟩
  cases x with
  | gone => trivial
  | box cs =>
    obtain ⟨q, hq, hcs⟩ := h
    refine ⟨q, hq, fun j tv hj => ?_⟩
    obtain ⟨v, h1, h2, h3⟩ := hcs j tv hj
    exact ⟨v, h1, h2, h3.withCall⟩
  | raw s cs =>
    obtain ⟨q, hq, h1, h2, h3, h4, h5, h6⟩ := h
    refine ⟨q, hq, h1, h2, h3, h4, h5, fun j tv hj => ?_⟩
    obtain ⟨v, h7, h8⟩ := h6 j tv hj
    exact ⟨v, h7, h8.withCall⟩
  | deep c xs =>
    obtain ⟨q, hq, h1⟩ := h
    exact ⟨q, hq, h1.withCall⟩
  | row c xs m =>
    obtain ⟨q, hq, h1, h2, h3, h4⟩ := h
    refine ⟨q, hq, h1, h2, h3, ?_⟩
    cases m with
    | own => exact ⟨h4.1, fun i x j tv hx hj => by
        obtain ⟨v, h5, h6⟩ := h4.2 i x j tv hx hj
        exact ⟨v, h5, h6.withCall⟩⟩
    | app => exact ⟨h4.1, row h4.2.1, h4.2.2⟩
    | ro => exact row h4
  | mapo ag sh vag vc L ex clock =>
    obtain ⟨q, hq, es, cl, hh, L', h1, h2, h3⟩ := h
    refine ⟨q, hq, es, cl, hh, L', h1, fun i t e ht he => ?_, h3⟩
    obtain ⟨h0, h4, h5, tv, h6, h7⟩ := h2 i t e ht he
    exact ⟨h0, h4, h5, tv, h6, h7.withCall⟩
  | iter mp a b c => exact h
theorem RelW.withCall {B : Base} {o : Nat → Option (Obj S)} {w : World} {φ : Phi} {M : Mem} (h : RelW E B o w φ M) : RelW (E.withCall g) B o w φ M :=
  ⟨fun nm x hx => (h.objs nm x hx).withCall, h.fresh, h.sep, h.mdis, h.mval, h.os, h.tape, h.output, h.size, h.kept, h.perm, h.csz, h.mle, h.mnew, h.ext, h.drawn⟩
theorem CallOK.withCall {f : FuncId} {args : List (TV S)} {objs : List (Obj S)} {res : Res S} (h : CallOK E f args objs res) : CallOK (E.withCall g) f args objs res := by
  refine ⟨h.1, fun B vals hm hl hv hW => ?_⟩
  have back : (E.withCall g).withCall E.callf = E := rfl
  refine (h.2 B vals hm hl (fun i tv v h1 h2 => by have := (hv i tv v h1 h2).withCall (g := E.callf); rw [back] at this; exact this) (by have := hW.withCall (g := E.callf); rw [back] at this; exact this)).mono ?_
  rintro e w' ⟨v, φ', M', he, hv', hW'⟩
  exact ⟨v, φ', M', he, hv'.withCall, hW'.withCall⟩
theorem CallOK.unCall {f : FuncId} {args : List (TV S)} {objs : List (Obj S)} {res : Res S} (h : CallOK (E.withCall g) f args objs res) : CallOK E f args objs res := by
  have := h.withCall (g := E.callf)
  exact this
theorem EnvOk.withCall (h : EnvOk E) : EnvOk (E.withCall g) where
  len := h.len
  pos := h.pos
  mixed := h.mixed
  size := h.size
  pure := h.pure
  dec c cs x M i tv v h1 h2 h3 := by
    have back : (E.withCall g).withCall E.callf = E := rfl
    have h4 := h3.withCall (g := E.callf)
    rw [back] at h4
    obtain ⟨tv', h5, h6⟩ := h.dec c cs x M i tv v h1 h2 h4
    exact ⟨tv', h5, h6.withCall⟩
  szle := h.szle
  decLen := h.decLen
  keys := h.keys
  sub := ⟨h.sub.tree, h.sub.dec, h.sub.decN⟩
end

/-- A table of which every row is so. -/
def TabOK (E : Env S) (g : Callf S) : Prop :=
  ∀ (f : FuncId) (args : List (TV S)) (objs : List (Obj S)) (R : Type) (k : Res S → Option R) (r : R), g f args objs R k = some r → ∃ res, k res = some r ∧ CallOK E f args objs res
theorem TabOK.callf {E : Env S} {g : Callf S} (h : TabOK E g) : CallfOK (E.withCall g) := fun f args objs R k r hk => by
  obtain ⟨res, h1, h2⟩ := h f args objs R k r hk
  exact ⟨res, h1, h2.withCall⟩

/-- A call of a function by its body; the calls in it by the table g. -/
def bodyT (E : Env S) (hint : FuncId → Hint S) (N : Nat) (g : Callf S) : Callf S := fun f args objs _ k =>
  match E.P.funcs[f]? with
  | some fn => if (fn.name == "runtime.NumGoroutine") = true then none else runFn (E.withCall g) (hint f) N fn args objs k
  | none => none
/-- Nothing that is not proved is said of loops; ranges go no ways. -/
def HintOk (hint : FuncId → Hint S) : Prop := ∀ f, (hint f).nd = false ∧ (∀ cur h, (hint f).loops cur = some h → h.oracle = none) ∧ ∀ i, (hint f).cuts i = none
theorem bodyT_ok {E : Env S} (hE : EnvOk E) {hint : FuncId → Hint S} (hH : HintOk hint) {N : Nat} {g : Callf S} (hg : TabOK E g) : TabOK E (bodyT E hint N g) := by
  intro f args objs R k r h
  unfold bodyT at h
  split at h
  · rename_i fn hfn
    split at h
    · cases h
    · rename_i hname
      obtain ⟨res, h1, h2⟩ := runFn_sound hE.withCall hg.callf (hH f).1 (f := f) hfn (by simpa using hname) (fun c _ => loopsOK_none (hH f).2.1 c 0 (hH f).2.2) h
      exact ⟨res, h1, h2.unCall⟩
  · cases h

/-- Calls, so many deep. -/
def tabN (E : Env S) (hint : FuncId → Hint S) (N : Nat) (own : FuncId → Bool) (g : Callf S) : Nat → Callf S
  | 0 => g
  | n + 1 => fun f args objs R k => if own f = true then g f args objs R k else bodyT E hint N (tabN E hint N own g n) f args objs R k
theorem tabN_ok {E : Env S} (hE : EnvOk E) {hint : FuncId → Hint S} (hH : HintOk hint) {N : Nat} {own : FuncId → Bool} {g : Callf S} (hg : TabOK E g) : ∀ n, TabOK E (tabN E hint N own g n)
  | 0 => hg
  | n + 1 => by
    intro f args objs R k r h
    simp only [tabN] at h
    split at h
    · exact hg f args objs R k r h
    · exact bodyT_ok hE hH (tabN_ok hE hH hg n) f args objs R k r h
def noCalls : Callf S := fun _ _ _ _ _ => none
theorem noCalls_ok {E : Env S} : TabOK E (noCalls (S := S)) := fun _ _ _ _ _ _ h => by cases h

/-- .. and the tape is drawn further alone. -/
theorem calls_drawn {E : Env S} {f : FuncId} {args : List (TV S)} {res : Res S} (h : CallOK E f args [] res) (w : World) {vals : Array Value} (hl : args.length = vals.size)
    (hv : ∀ (i : Nat) (tv : TV S) (v : Value), args[i]? = some tv → vals[i]? = some v → CR E (fun b off => w.cell? (at_ b off)) tv v) :
    Calls E.P f vals w fun e w' => (∃ v φ M, e = .returned v ∧ VR E φ M res.v v) ∧ Below w.heap.size w w' ∧ w.drawn ≤ w'.drawn := by
  refine (h.2 ⟨w, fun _ => False, fun b off => w.cell? (at_ b off), fun _ => none, 0⟩ vals rfl hl (fun i tv v h1 h2 => .pure (hv i tv v h1 h2)) ?_).mono ?_
  · exact ⟨fun nm x hx => by simp at hx, fun _ _ => rfl, fun nm nm' x x' b f f' hx => by simp at hx, fun nm x b f off hx => by simp at hx, fun b off v hv => hv, rfl, rfl, rfl, Nat.le_refl _, fun _ _ _ => rfl,
      fun nm x b f hx => by simp at hx, fun nm x b f hx => by simp at hx, Mem.le_refl _, fun b off hne => absurd rfl hne, fun _ h => absurd h (Nat.not_lt_zero _), Nat.le_refl _⟩
  · rintro e w' ⟨v, φ, M, he, hv', hW⟩
    exact ⟨⟨v, φ, M, he, hv'⟩, ⟨hW.os, hW.tape, hW.output, hW.size, fun k hk => hW.kept k hk (fun h => h)⟩, hW.drawn⟩
/-- What a closed call says of the program: all of memory stands still. -/
theorem calls_below {E : Env S} {f : FuncId} {args : List (TV S)} {res : Res S} (h : CallOK E f args [] res) (w : World) {vals : Array Value} (hl : args.length = vals.size)
    (hv : ∀ (i : Nat) (tv : TV S) (v : Value), args[i]? = some tv → vals[i]? = some v → CR E (fun b off => w.cell? (at_ b off)) tv v) :
    Calls E.P f vals w fun e w' => (∃ v φ M, e = .returned v ∧ VR E φ M res.v v) ∧ Below w.heap.size w w' := by
  refine (h.2 ⟨w, fun _ => False, fun b off => w.cell? (at_ b off), fun _ => none, 0⟩ vals rfl hl (fun i tv v h1 h2 => .pure (hv i tv v h1 h2)) ?_).mono ?_
  · exact ⟨fun nm x hx => by simp at hx, fun _ _ => rfl, fun nm nm' x x' b f f' hx => by simp at hx, fun nm x b f off hx => by simp at hx, fun b off v hv => hv, rfl, rfl, rfl, Nat.le_refl _, fun _ _ _ => rfl,
      fun nm x b f hx => by simp at hx, fun nm x b f hx => by simp at hx, Mem.le_refl _, fun b off hne => absurd rfl hne, fun _ h => absurd h (Nat.not_lt_zero _), Nat.le_refl _⟩
  · rintro e w' ⟨v, φ, M, he, hv', hW⟩
    exact ⟨⟨v, φ, M, he, hv'⟩, hW.os, hW.tape, hW.output, hW.size, fun k hk => hW.kept k hk (fun h => h)⟩

/-! ### one environment for every program -/
inductive PV : Type
  | bool (b : Bool)
  | int (k : IntKind) (n : Int)
  | str (s : List UInt8)
  | nilp
  | nils
  | nilm
  | nilf
  | nili
  | tree (c : Nat) (xs : List (List PV))

def U : Sig := ⟨Nat, fun _ => List PV, inferInstance, fun _ => false⟩

def toTV : PV → TV U
  | .bool b => .bool b
  | .int k n => .int k n
  | .str s => .str s
  | .nilp => .nilp
  | .nils => .nils
  | .nilm => .nilm
  | .nilf => .nilf
  | .nili => .nili
  | .tree c xs => .tree (S := U) c xs
def fromTV : TV U → Option PV
  | .bool b => some (.bool b)
  | .int k n => some (.int k n)
  | .str s => some (.str s)
  | .nilp => some .nilp
  | .nils => some .nils
  | .nilm => some .nilm
  | .nilf => some .nilf
  | .nili => some .nili
  | .tree c xs => some (.tree c xs)
  | _ => none
def padTo : Nat → List PV → List (TV U)
  | 0, _ => []
  | n + 1, [] => .nilp :: padTo n []
  | n + 1, x :: r => toTV x :: padTo n r
def allFrom : List (TV U) → Option (List PV)
  | [] => some []
  | v :: r => match fromTV v, allFrom r with
    | some x, some l => some (x :: l)
    | _, _ => none
def uSz (P : Program) (c : Nat) : Nat := match P.info? c with
  | some i => if 1 ≤ i.size ∧ i.size ≤ 2 ^ 11 then i.size else 1
  | none => 1
def uCode (P : Program) (t : TypeId) : Option Nat := match P.info? t with
  | some i => if (1 ≤ i.size ∧ i.size ≤ 2 ^ 11) ∧ i.bytes ≤ 2 ^ 11 then
      (match i.zero with
      | some z => if z.cells.size = i.size then some t else none
      | none => none) else none
  | none => none
def uEnv (P : Program) (asObj : FuncId → Nat → Bool) (g : Callf U) : Env U where
  P := P
  enc c x := padTo (uSz P c) x
  dec c cs := if cs.length = uSz P c then allFrom cs else none
  sz c := uSz P c
  code := uCode P
  keyTy := flatK P 40
  callf := g
  asObj := asObj

theorem padTo_length : ∀ (n : Nat) (l : List PV), (padTo n l).length = n
  | 0, _ => rfl
  | n + 1, [] => by simp [padTo, padTo_length n]
  | n + 1, x :: r => by simp [padTo, padTo_length n]
theorem padTo_alive : ∀ (n : Nat) (l : List PV) (tv : TV U), tv ∈ padTo n l → aliveCell tv = true
  | 0, _, _, h => by simp [padTo] at h
  | n + 1, [], tv, h => by
    simp only [padTo, List.mem_cons] at h
    rcases h with rfl | h
    · rfl
    · exact padTo_alive n [] tv h
  | n + 1, x :: r, tv, h => by
    simp only [padTo, List.mem_cons] at h
    rcases h with rfl | h
    · cases x <;> rfl
    · exact padTo_alive n r tv h
theorem from_to {tv : TV U} {x : PV} (h : fromTV tv = some x) : toTV x = tv := by
  cases tv <;> simp only [fromTV, Option.some.injEq] at h <;> first | (subst h; rfl) | (cases h)
theorem allFrom_pad : ∀ (cs : List (TV U)) (x : List PV), allFrom cs = some x → padTo cs.length x = cs
  | [], x, h => by simp only [allFrom, Option.some.injEq] at h; subst h; rfl
  | v :: r, x, h => by
    simp only [allFrom] at h
    split at h
    · rename_i y l h1 h2
      cases h
      simp only [List.length_cons, padTo]
      rw [from_to h1, allFrom_pad r l h2]
    · cases h

theorem uEnv_ok {P : Program} {asObj : FuncId → Nat → Bool} {g : Callf U} (hm : P.follows .mixedOrders = true) : EnvOk (uEnv P asObj g) where
  len c x := padTo_length _ _
  pos c := by
    show 1 ≤ uSz P c
    unfold uSz
    split
    · split
      · rename_i h; exact h.1
      · exact Nat.le_refl 1
    · exact Nat.le_refl 1
  mixed := hm
  sub := ⟨fun _ _ _ _ h => (by cases h), fun _ _ _ _ _ _ _ h => (by cases h), fun _ _ _ _ _ h => (by cases h)⟩
  size t c h := by
    change uCode P t = some c at h
    unfold uCode at h
    split at h
    · rename_i i hi
      split at h
      · rename_i hc
        split at h
        · rename_i z hz
          split at h
          · rename_i hs
            cases h
            have hsz : uSz P t = i.size := by unfold uSz; rw [hi]; simp only; rw [if_pos hc.1]
            refine ⟨i, hi, ?_, hc.2, z, hz, ?_⟩
            · show i.size = uSz P t; rw [hsz]
            · show z.cells.size = uSz P t; rw [hsz, hs]
          · cases h
        · cases h
      · cases h
    · cases h
  pure c x tv h := padTo_alive _ _ tv h
  dec c cs x M i tv v h1 h2 h3 := by
    change (if cs.length = uSz P c then allFrom cs else none) = some x at h1
    split at h1
    · rename_i hl
      refine ⟨tv, ?_, h3⟩
      show (padTo (uSz P c) x)[i]? = some tv
      rw [← hl, allFrom_pad cs x h1]; exact h2
    · cases h1
  szle c := by
    show uSz P c ≤ 2 ^ 11
    unfold uSz
    split
    · split
      · rename_i h; exact h.2
      · decide
    · decide
  decLen c cs x h := by
    change (if cs.length = uSz P c then allFrom cs else none) = some x at h
    split at h
    · rename_i hl; exact hl
    · cases h
  keys kt ag sh h := keyLaw (d := 40) (by decide) h

/-! ### closed runs -/
def saysTrue : Res U → Option Unit := fun r => match r.v with
  | .bool true => some ()
  | _ => none
/-- What a closed run is told: every slot lives on; rows are grown by append, but those that are named. -/
def uHint (P : Program) (own : FuncId → Nat → Bool) : FuncId → Hint U := fun f => match P.funcs[f]? with
  | some fn => { loops := fun _ => some { live := List.range fn.ntmps, out := fun _ => (List.range fn.ntmps, []) }, mode := fun d => if own f d then .own else .app, fork := true }
  | none => {}
def uRun (P : Program) (asObj : FuncId → Nat → Bool) (hint : FuncId → Hint U) (N n : Nat) (f : FuncId) (args : List (TV U)) : Bool :=
  (tabN (uEnv P asObj noCalls) hint N (fun _ => false) noCalls n f args [] Unit saysTrue).isSome
theorem uRun_sound {P : Program} {asObj : FuncId → Nat → Bool} {hint : FuncId → Hint U} {N n : Nat} {f : FuncId} {args : List (TV U)} (hm : P.follows .mixedOrders = true) (hH : HintOk hint) (h : uRun P asObj hint N n f args = true) :
    ∃ res : Res U, res.v = .bool true ∧ CallOK (uEnv P asObj noCalls) f args [] res := by
  unfold uRun at h
  obtain ⟨r, hr⟩ := Option.isSome_iff_exists.1 h
  obtain ⟨res, h1, h2⟩ := tabN_ok (uEnv_ok hm) hH noCalls_ok n f args [] Unit saysTrue r hr
  refine ⟨res, ?_, h2⟩
  unfold saysTrue at h1
  split at h1
  · assumption
  · cases h1
theorem uRun_calls {P : Program} {asObj : FuncId → Nat → Bool} {hint : FuncId → Hint U} {N n : Nat} {f : FuncId} {args : List (TV U)} (hm : P.follows .mixedOrders = true) (hH : HintOk hint) (h : uRun P asObj hint N n f args = true) (w : World) {vals : Array Value} (hl : args.length = vals.size)
    (hv : ∀ (i : Nat) (tv : TV U) (v : Value), args[i]? = some tv → vals[i]? = some v → CR (uEnv P asObj noCalls) (fun b off => w.cell? (at_ b off)) tv v) :
    Calls P f vals w fun e w' => e = .returned (.bool true) ∧ Below w.heap.size w w' := by
  obtain ⟨res, h1, h2⟩ := uRun_sound hm hH h
  refine (calls_below h2 w hl hv).mono ?_
  rintro e w' ⟨⟨v, φ, M, rfl, hvr⟩, hb⟩
  rw [h1] at hvr
  rw [hvr.bool]
  exact ⟨rfl, hb⟩
end TE
