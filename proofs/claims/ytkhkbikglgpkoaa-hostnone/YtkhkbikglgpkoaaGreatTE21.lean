/- TE: maps of which order and stamps are let go, or chosen. -/
import Derived.Test.YtkhkbikglgpkoaaGreatTE20
import Derived.Test.YtkhkbikglgpkoaaGreatTE19
namespace TE
open Go
variable {S : Sig} {E : Env S}

/-- What is known of y is known of x. -/
inductive ObjLe : Obj S → Obj S → Prop
  | refl (x : Obj S) : ObjLe x x
  | map (ag : Bool) (sh : List ScK) (vag : Bool) (vc : S.K) (L L2 : List (List Sc × S.El vc × Nat)) (ex : Bool) (cl cl2 : Nat) (h : (L.map fun t => (t.1, t.2.1)).Perm (L2.map fun t => (t.1, t.2.1))) :
      ObjLe (.mapo ag sh vag vc L ex cl) (.mapo ag sh vag vc L2 false cl2)
def OptLe (x y : Option (Obj S)) : Prop := (x = none ∧ y = none) ∨ ∃ a b, x = some a ∧ y = some b ∧ ObjLe a b

theorem ObjLe.claim {φ : Phi} {nm : Nat} {x y : Obj S} (h : ObjLe x y) : claim φ nm x = claim φ nm y := by
  cases h <;> rfl
theorem map_fst {α β γ : Type} (L : List (α × β × γ)) : (L.map fun t => (t.1, t.2.1)).map (·.1) = L.map (·.1) := by
  rw [List.map_map]; rfl
theorem ObjLe.objR {φ : Phi} {M : Mem} {w : World} {nm : Nat} {x y : Obj S} (h : ObjLe x y) (hx : ObjR E φ M w nm x) : ObjR E φ M w nm y := by
  cases h with
  | refl => exact hx
  | map ag sh vag vc L L2 ex cl cl2 hp =>
    obtain ⟨g, hg, es, cl', hb, L', h1, h2, h3, h4, h5, h6, h7⟩ := hx
    refine ⟨g, hg, es, cl', hb, L', h1, h2, (fun h => by cases h), h4.trans hp, ?_, h6, h7⟩
    have := (hp.map (·.1)).nodup_iff.1 (by rw [map_fst]; exact h5)
    rw [map_fst] at this
    exact this
theorem RelW.le {B : Base} {o o' : Nat → Option (Obj S)} {w : World} {φ : Phi} {M : Mem} (h : RelW E B o w φ M) (hle : ∀ n, OptLe (o n) (o' n)) : RelW E B o' w φ M := by
  have back : ∀ n y, o' n = some y → ∃ x, o n = some x ∧ ObjLe x y := by
    intro n y hy
    rcases hle n with ⟨_, e⟩ | ⟨a, b, e1, e2, e3⟩
    · rw [hy] at e; cases e
    · rw [hy] at e2; cases e2; exact ⟨a, e1, e3⟩
  refine ⟨fun nm y hy => ?_, fun nm hn => ?_, fun nm nm' x x' b f f' hx hx' h1 h2 => ?_, fun nm x b f off hx h1 h2 => ?_, h.mval, h.os, h.tape, h.output, h.size, h.kept, fun nm x b f hx h1 => ?_, fun nm x b f hx h1 => ?_, h.mle, h.mnew, h.ext, h.drawn⟩
  · obtain ⟨x, hx, hl⟩ := back nm y hy
    exact hl.objR (h.objs nm x hx)
  · rcases hle nm with ⟨e, _⟩ | ⟨a, b, e1, e2, e3⟩
    · exact h.fresh nm e
    · rw [hn] at e2; cases e2
  · obtain ⟨y, hy, hl⟩ := back nm x hx
    obtain ⟨y', hy', hl'⟩ := back nm' x' hx'
    exact h.sep nm nm' y y' b f f' hy hy' (by rw [hl.claim]; exact h1) (by rw [hl'.claim]; exact h2)
  · obtain ⟨y, hy, hl⟩ := back nm x hx
    exact h.mdis nm y b f off hy (by rw [hl.claim]; exact h1) h2
  · obtain ⟨y, hy, hl⟩ := back nm x hx
    exact h.perm nm y b f hy (by rw [hl.claim]; exact h1)
  · obtain ⟨y, hy, hl⟩ := back nm x hx
    exact h.csz nm y b f hy (by rw [hl.claim]; exact h1)

/-- What is known of the result res' is known of res. -/
def ResLe (objs : List (Obj S)) (res res' : Res S) : Prop :=
  res.v = res'.v ∧ ∀ n : Nat, OptLe ((res.xs.getD objs ++ res.ns)[n]?) ((res'.xs.getD objs ++ res'.ns)[n]?)
theorem CallOKs.weaken {f : FuncId} {args : List (TV S)} {objs : List (Obj S)} {Q Q' : Res S → Prop} (h : CallOKs E f args objs Q) (hq : ∀ res, Q res → ∃ res', Q' res' ∧ ResLe objs res res') : CallOKs E f args objs Q' :=
  ⟨h.1, fun B vals h1 h2 h3 h4 => (h.2 B vals h1 h2 h3 h4).mono fun e w' ⟨res, hr, v, φ', M', he, hv, hw⟩ => by
    obtain ⟨res', hr', hl⟩ := hq res hr
    exact ⟨res', hr', v, φ', M', he, by rw [← hl.1]; exact hv, hw.le hl.2⟩⟩

/-- A function that takes a map may take it with order and stamps, whatever they are. -/
theorem CallOKs.exact {f : FuncId} {args : List (TV S)} {objs : List (Obj S)} {Q : Res S → Prop} {nm : Nat} {ag : Bool} {sh : List ScK} {vag : Bool} {vc : S.K} {L : List (List Sc × S.El vc × Nat)} {ex : Bool} {cl : Nat}
    (hn : objs[nm]? = some (.mapo ag sh vag vc L ex cl)) (hq : ∀ res, Q res → ∃ xs, res.xs = some xs)
    (h : ∀ (L' : List (List Sc × S.El vc × Nat)) (cl' : Nat), (L'.map fun t => (t.1, t.2.1)).Perm (L.map fun t => (t.1, t.2.1)) → (L'.map (·.1)).Nodup → (L'.map (·.2.2)).Nodup → (∀ t ∈ L', t.2.2 < cl') → (∀ t ∈ L', shaped sh t.1 = true) →
      CallOKs E f args (objs.set nm (.mapo ag sh vag vc L' true cl')) Q)
    (hf : ∃ fn, E.P.funcs[f]? = some fn ∧ (fn.name == "runtime.NumGoroutine") = false ∧ fn.body.isNone = false) : CallOKs E f args objs Q := by
  refine ⟨hf, fun B vals h1 h2 h3 h4 => ?_⟩
  obtain ⟨g, hg, es, cl', hb, L', k1, k2, k3, k4, k5, k6, k7⟩ := h4.objs nm _ hn
  have keys : (L'.map (·.1)).Nodup := by
    have := (k4.map (·.1)).nodup_iff.2 (by rw [map_fst]; exact k5)
    rw [map_fst] at this
    exact this
  have hsh : ∀ t ∈ L', shaped sh t.1 = true := by
    intro t ht
    obtain ⟨j, hj, rfl⟩ := List.mem_iff_getElem.1 ht
    have hjl : j < es.size := by rw [← k1]; exact hj
    exact (k2 j _ _ (List.getElem?_eq_getElem hj) (Array.getElem?_eq_getElem hjl)).1
  have hlt : nm < objs.length := (List.getElem?_eq_some_iff.1 hn).1
  have hset : (fun i : Nat => (objs.set nm (.mapo ag sh vag vc L' true cl'))[i]?) = setF (fun i => objs[i]?) nm (some (.mapo ag sh vag vc L' true cl')) := by
    funext i
    by_cases e : i = nm
    · subst e; rw [setF_self]; simp [hlt]
    · rw [setF_ne _ _ e]; simp [List.getElem?_set, Ne.symm e]
  have hW : RelW E B (fun i => (objs.set nm (.mapo ag sh vag vc L' true cl'))[i]?) B.w B.φ B.M := by
    rw [hset]
    have hx : ∀ nm' x, setF (fun i => objs[i]?) nm (some (.mapo ag sh vag vc L' true cl')) nm' = some x → ∃ y, objs[nm']? = some y ∧ (∀ φ, claim φ nm' x = claim φ nm' y) ∧ (ObjR E B.φ B.M B.w nm' y → ObjR E B.φ B.M B.w nm' x) := by
      intro nm' x hx
      by_cases e : nm' = nm
      · subst e
        rw [setF_self] at hx; cases hx
        exact ⟨_, hn, fun φ => rfl, fun _ => ⟨g, hg, es, cl', hb, L', k1, k2, fun _ => ⟨rfl, rfl⟩, List.Perm.refl _, keys, k6, k7⟩⟩
      · rw [setF_ne _ _ e] at hx
        exact ⟨x, hx, fun φ => rfl, id⟩
    refine ⟨fun nm' x hy => ?_, fun nm' hn' => ?_, fun n1 n2 x x' b f f' hx1 hx2 c1 c2 => ?_, fun n1 x b f off hx1 c1 c2 => ?_, h4.mval, h4.os, h4.tape, h4.output, h4.size, h4.kept, fun n1 x b f hx1 c1 => ?_, fun n1 x b f hx1 c1 => ?_, h4.mle, h4.mnew, h4.ext, h4.drawn⟩
    · obtain ⟨y, e1, e2, e3⟩ := hx nm' x hy
      exact e3 (h4.objs nm' y e1)
    · by_cases e : nm' = nm
      · subst e; rw [setF_self] at hn'; cases hn'
      · rw [setF_ne _ _ e] at hn'; exact h4.fresh nm' hn'
    · obtain ⟨y, e1, e2, _⟩ := hx n1 x hx1
      obtain ⟨y', e1', e2', _⟩ := hx n2 x' hx2
      exact h4.sep n1 n2 y y' b f f' e1 e1' (by rw [← e2]; exact c1) (by rw [← e2']; exact c2)
    · obtain ⟨y, e1, e2, _⟩ := hx n1 x hx1
      exact h4.mdis n1 y b f off e1 (by rw [← e2]; exact c1) c2
    · obtain ⟨y, e1, e2, _⟩ := hx n1 x hx1
      exact h4.perm n1 y b f e1 (by rw [← e2]; exact c1)
    · obtain ⟨y, e1, e2, _⟩ := hx n1 x hx1
      exact h4.csz n1 y b f e1 (by rw [← e2]; exact c1)
  refine ((h L' cl' k4 keys k6 k7 hsh).2 B vals (by rw [h1]; simp) h2 h3 hW).mono ?_
  rintro e w' ⟨res, hr, v, φ', M', he, hv, hw⟩
  obtain ⟨xs, hxs⟩ := hq res hr
  refine ⟨res, hr, v, φ', M', he, hv, ?_⟩
  rw [hxs] at hw ⊢
  exact hw
end TE
