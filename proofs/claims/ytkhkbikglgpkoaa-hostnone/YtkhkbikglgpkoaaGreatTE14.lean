/- TE: names counted anew; calls. -/
import Derived.Test.YtkhkbikglgpkoaaGreatTE13
namespace TE
open Go
variable {S : Sig} {E : Env S}

theorem renL_length (ρ : Nat → Nat) : ∀ l : List (TV S), (renL ρ l).length = l.length
  | [] => rfl
  | v :: r => by simp only [renL, List.length_cons, renL_length ρ r]
theorem renL_get (ρ : Nat → Nat) : ∀ (l : List (TV S)) (i : Nat), (renL ρ l)[i]? = (l[i]?).map (ren ρ)
  | [], i => by simp [renL]
  | v :: r, 0 => by simp [renL]
  | v :: r, i + 1 => by simp [renL, renL_get ρ r i]
theorem namesL_mem {l : List (TV S)} {i : Nat} {v : TV S} {n : Nat} (h : l[i]? = some v) (hn : n ∈ namesOf v) : n ∈ namesL l := by
  induction l generalizing i with
  | nil => simp at h
  | cons x r ih =>
    simp only [namesL, List.mem_append]
    cases i with
    | zero => simp at h; subst h; exact .inl hn
    | succ i => exact .inr (ih (by simpa using h))

theorem CR.ren {M : Mem} {tv : TV S} {v : Value} (h : CR E M tv v) (ρ : Nat → Nat) : TE.ren ρ tv = tv := by
  cases h <;> rfl

theorem VR.ren {φ φ' : Phi} {M : Mem} {ρ : Nat → Nat} {tv : TV S} {v : Value} (h : VR E φ M tv v) : (∀ n ∈ namesOf tv, ∀ g, φ n = some g → φ' (ρ n) = some g) → VR E φ' M (TE.ren ρ tv) v := by
  induction h with
  | dead v => intro _; exact .dead v
  | pure c => intro _; rw [c.ren]; exact .pure c
  | ptr hg => intro hn; exact .ptr (hn _ (by simp [namesOf]) _ hg)
  | iptr b o vs hM hC => intro _; exact .iptr b o vs hM hC
  | slw hg hs => intro hn; exact .slw (hn _ (by simp [namesOf]) _ hg) hs
  | sl hg hs => intro hn; exact .sl (hn _ (by simp [namesOf]) _ hg) hs
  | rs hg h1 h2 h3 h4 => intro hn; exact .rs (hn _ (by simp [namesOf]) _ hg) h1 h2 h3 h4
  | map hg => intro hn; exact .map (hn _ (by simp [namesOf]) _ hg)
  | fn hl _ ih =>
    intro hn
    refine .fn (by rw [renL_length]; exact hl) fun i tv v h1 h2 => ?_
    rw [renL_get] at h1
    obtain ⟨y, hy, rfl⟩ := Option.map_eq_some_iff.1 h1
    exact ih i y v hy h2 (fun n hm => hn n (by simp only [namesOf]; exact namesL_mem hy hm))
  | mv hl _ ih =>
    intro hn
    refine .mv (by rw [renL_length]; exact hl) fun i tv v h1 h2 => ?_
    rw [renL_get] at h1
    obtain ⟨y, hy, rfl⟩ := Option.map_eq_some_iff.1 h1
    exact ih i y v hy h2 (fun n hm => hn n (by simp only [namesOf]; exact namesL_mem hy hm))
  | agg hl _ ih =>
    intro hn
    refine .agg (by rw [renL_length]; exact hl) fun i tv v h1 h2 => ?_
    rw [renL_get] at h1
    obtain ⟨y, hy, rfl⟩ := Option.map_eq_some_iff.1 h1
    exact ih i y v hy h2 (fun n hm => hn n (by simp only [namesOf]; exact namesL_mem hy hm))
  | tup hl _ ih =>
    intro hn
    refine .tup (by rw [renL_length]; exact hl) fun i tv v h1 h2 => ?_
    rw [renL_get] at h1
    obtain ⟨y, hy, rfl⟩ := Option.map_eq_some_iff.1 h1
    exact ih i y v hy h2 (fun n hm => hn n (by simp only [namesOf]; exact namesL_mem hy hm))

mutual
theorem ren_ren {ρ σ : Nat → Nat} : ∀ (tv : TV S), (∀ n ∈ namesOf tv, σ (ρ n) = n) → ren σ (ren ρ tv) = tv
  | .ptr nm i k, h => by simp only [ren]; rw [h nm (by simp [namesOf])]
  | .slw nm, h => by simp only [ren]; rw [h nm (by simp [namesOf])]
  | .sl nm _ _, h => by simp only [ren]; rw [h nm (by simp [namesOf])]
  | .rs nm _ _, h => by simp only [ren]; rw [h nm (by simp [namesOf])]
  | .map nm, h => by simp only [ren]; rw [h nm (by simp [namesOf])]
  | .fn f cap, h => by simp only [ren]; rw [renL_renL cap (fun n hn => h n (by simp only [namesOf]; exact hn))]
  | .mv f cap, h => by simp only [ren]; rw [renL_renL cap (fun n hn => h n (by simp only [namesOf]; exact hn))]
  | .iface t v, h => by simp only [ren]; rw [ren_ren v (fun n hn => h n (by simp only [namesOf]; exact hn))]
  | .agg cs, h => by simp only [ren]; rw [renL_renL cs (fun n hn => h n (by simp only [namesOf]; exact hn))]
  | .tup cs, h => by simp only [ren]; rw [renL_renL cs (fun n hn => h n (by simp only [namesOf]; exact hn))]
  | .dead, _ => rfl
  | .undef, _ => rfl
  | .bool _, _ => rfl
  | .int _ _, _ => rfl
  | .str _, _ => rfl
  | .nilp, _ => rfl
  | .iptr _ _ _, _ => rfl
  | .nils, _ => rfl
  | .tree _ _, _ => rfl
  | .nilm, _ => rfl
  | .nilf, _ => rfl
  | .nili, _ => rfl
theorem renL_renL {ρ σ : Nat → Nat} : ∀ (l : List (TV S)), (∀ n ∈ namesL l, σ (ρ n) = n) → renL σ (renL ρ l) = l
  | [], _ => rfl
  | v :: r, h => by
    simp only [renL]
    rw [ren_ren v (fun n hn => h n (by simp only [namesL, List.mem_append]; exact .inl hn)), renL_renL r (fun n hn => h n (by simp only [namesL, List.mem_append]; exact .inr hn))]
end
theorem renObj_renObj {ρ σ : Nat → Nat} (x : Obj S) (h : ∀ n ∈ namesObj x, σ (ρ n) = n) : renObj σ (renObj ρ x) = x := by
  cases x with
  | gone => rfl
  | row c xs m => rfl
  | deep c xs => rfl
  | box cs => simp only [renObj]; rw [renL_renL cs h]
  | raw s cs => simp only [renObj]; rw [renL_renL cs h]
  | mapo _ _ _ _ _ _ _ => rfl
  | iter nm _ _ _ => simp only [renObj]; rw [h nm (by simp [namesObj])]

theorem claim_ren {φ φ' : Phi} {n n' : Nat} {ρ : Nat → Nat} (h : φ' n' = φ n) (x : Obj S) : claim φ' n' (renObj ρ x) = claim φ n x := by
  funext b f
  unfold claim
  rw [h]
  cases x <;> rfl
theorem ObjR.ren {φ φ' : Phi} {M : Mem} {w : World} {n n' : Nat} {ρ : Nat → Nat} {x : Obj S} (h : ObjR E φ M w n x) (hn : ∀ g, φ n = some g → φ' n' = some g) (hx : ∀ m ∈ namesObj x, ∀ g, φ m = some g → φ' (ρ m) = some g) : ObjR E φ' M w n' (renObj ρ x) := by
  cases x with
  | gone => trivial
  | box cs =>
    obtain ⟨g, hg, hcs⟩ := h
    refine ⟨g, hn g hg, fun j tv hj => ?_⟩
    rw [renL_get] at hj
    obtain ⟨y, hy, rfl⟩ := Option.map_eq_some_iff.1 hj
    obtain ⟨v, h1, h2, h3⟩ := hcs j y hy
    exact ⟨v, h1, h2, h3.ren fun m hm => hx m (namesL_mem hy hm)⟩
  | raw s cs =>
    obtain ⟨g, hg, hs, hs1, hL, hle, hlive, hcs⟩ := h
    refine ⟨g, hn g hg, hs, hs1, by rw [hL, renL_length], hle, hlive, fun j tv hj => ?_⟩
    rw [renL_get] at hj
    obtain ⟨y, hy, rfl⟩ := Option.map_eq_some_iff.1 hj
    obtain ⟨v, h1, h3⟩ := hcs j y hy
    exact ⟨v, h1, h3.ren fun m hm => hx m (namesL_mem hy hm)⟩
  | row c xs m =>
    obtain ⟨g, hg, h1, h2, h3, h4⟩ := h
    exact ⟨g, hn g hg, h1, h2, h3, h4⟩
  | deep c xs =>
    obtain ⟨g, hg, h1⟩ := h
    exact ⟨g, hn g hg, h1⟩
  | mapo _ _ _ _ _ _ _ =>
    obtain ⟨g, hg, h1⟩ := h
    exact ⟨g, hn g hg, h1⟩
  | iter mp _ _ _ =>
    obtain ⟨g, gm, hg, hgm, hs, h1⟩ := h
    exact ⟨g, gm, hn g hg, hx mp (by simp [namesObj]) gm hgm, hs, h1⟩

theorem reach_nodup (o : Nat → Option (Obj S)) : ∀ (k : Nat) (todo seen : List Nat), seen.Nodup → (reach o k todo seen).Nodup
  | 0, _, _, h => h
  | _ + 1, [], _, h => h
  | k + 1, n :: todo, seen, h => by
    simp only [reach]
    split
    · exact reach_nodup o k _ _ h
    · rename_i hc
      refine reach_nodup o k _ _ ?_
      rw [List.nodup_append]
      refine ⟨h, by simp, fun x hx y hy e => ?_⟩
      simp at hy
      subst hy; subst e
      simp at hc
      exact hc hx
theorem reach_pre (o : Nat → Option (Obj S)) : ∀ (k : Nat) (todo seen : List Nat), ∃ r, reach o k todo seen = seen ++ r
  | 0, _, seen => ⟨[], by simp [reach]⟩
  | _ + 1, [], seen => ⟨[], by simp [reach]⟩
  | k + 1, n :: todo, seen => by
    simp only [reach]
    split
    · exact reach_pre o k _ _
    · obtain ⟨r, hr⟩ := reach_pre o k (kidsAt o n ++ todo) (seen ++ [n])
      exact ⟨n :: r, by rw [hr]; simp⟩

theorem closed_roots {o : Nat → Option (Obj S)} {ks roots : List Nat} (h : closedUnder o ks roots = true) {n : Nat} (hn : n ∈ roots) : n ∈ ks := by
  simp only [closedUnder, Bool.and_eq_true, List.all_eq_true] at h
  simpa using h.1 n hn
theorem closed_objs {o : Nat → Option (Obj S)} {ks roots : List Nat} (h : closedUnder o ks roots = true) {n : Nat} (hn : n ∈ ks) : ∃ x, o n = some x ∧ ∀ m ∈ namesObj x, m ∈ ks := by
  simp only [closedUnder, Bool.and_eq_true, List.all_eq_true] at h
  have h2 := h.2 n hn
  split at h2
  · rename_i x hx
    refine ⟨x, hx, fun m hm => ?_⟩
    simp only [List.all_eq_true] at h2
    simpa using h2 m hm
  · cases h2

theorem idx_get {ks : List Nat} (h : ks.Nodup) {i n : Nat} (hi : ks[i]? = some n) : ks.idxOf n = i := by
  obtain ⟨hlt, rfl⟩ := List.getElem?_eq_some_iff.1 hi
  exact List.Nodup.idxOf_getElem h i hlt
theorem get_idx {ks : List Nat} {n : Nat} (h : n ∈ ks) : ks[ks.idxOf n]? = some n := by
  have hlt := List.idxOf_lt_length_of_mem h
  rw [List.getElem?_eq_getElem hlt]
  simp [List.getElem_idxOf hlt]

/-- Objects counted anew: those of ks, in their order. -/
theorem RelW.tidy {B B' : Base} {o : Nat → Option (Obj S)} {w : World} {φ : Phi} {M : Mem} (h : RelW E B o w φ M) {ks roots : List Nat} (hnd : ks.Nodup) (hcl : closedUnder o ks roots = true)
    (hw : B'.w.os = w.os ∧ B'.w.tape = w.tape ∧ B'.w.output = w.output ∧ B'.w.heap.size ≤ w.heap.size ∧ (∀ b, b < B'.w.heap.size → ¬ B'.own b → w.heap[b]? = B'.w.heap[b]?) ∧ B'.M.le M ∧ (∀ b off, M b off ≠ B'.M b off → B'.w.heap.size ≤ b ∨ B'.own b) ∧ B'.w.drawn ≤ w.drawn)
    (hperm : ∀ (i n : Nat) (x : Obj S) (b f : Nat), ks[i]? = some n → o n = some x → claim φ n x b f → B'.w.heap.size ≤ b ∨ B'.own b)
    (hext : ∀ i, i < B'.m → ((ks[i]?).bind φ).map GI.strip = (B'.φ i).map GI.strip) :
    RelW E B' (fun i => (ks[i]?).map fun n => renObj (fun n => ks.idxOf n) ((o n).getD .gone)) w (fun i => (ks[i]?).bind φ) M := by
  have getO : ∀ (i : Nat) (x : Obj S), ((ks[i]?).map fun n => renObj (fun n => ks.idxOf n) ((o n).getD .gone)) = some x → ∃ n y, ks[i]? = some n ∧ o n = some y ∧ x = renObj (fun n => ks.idxOf n) y ∧ ∀ m ∈ namesObj y, m ∈ ks := by
    intro i x hx
    obtain ⟨n, hn, rfl⟩ := Option.map_eq_some_iff.1 hx
    obtain ⟨y, hy, hm⟩ := closed_objs hcl (List.mem_of_getElem? hn)
    exact ⟨n, y, hn, hy, by rw [hy]; rfl, hm⟩
  have hφ : ∀ (i n : Nat), ks[i]? = some n → (ks[i]?).bind φ = φ n := fun i n hn => by rw [hn]; rfl
  constructor
  case objs =>
    intro i x hx
    obtain ⟨n, y, hn, hy, rfl, hm⟩ := getO i x hx
    refine (h.objs n y hy).ren (fun g hg => by rw [hφ i n hn]; exact hg) (fun m hmy g hg => ?_)
    show (ks[ks.idxOf m]?).bind φ = some g
    rw [get_idx (hm m hmy)]; exact hg
  case fresh =>
    intro i hi
    cases hk : ks[i]? with
    | none => rfl
    | some n => rw [hk] at hi; cases hi
  case sep =>
    intro i i' x x' b f f' hx hx' hc hc'
    obtain ⟨n, y, hn, hy, rfl, _⟩ := getO i x hx
    obtain ⟨n', y', hn', hy', rfl, _⟩ := getO i' x' hx'
    rw [claim_ren (hφ i n hn)] at hc
    rw [claim_ren (hφ i' n' hn')] at hc'
    have := h.sep n n' y y' b f f' hy hy' hc hc'
    subst this
    rw [← idx_get hnd hn, ← idx_get hnd hn']
  case mdis =>
    intro i x b f off hx hc hf
    obtain ⟨n, y, hn, hy, rfl, _⟩ := getO i x hx
    rw [claim_ren (hφ i n hn)] at hc
    exact h.mdis n y b f off hy hc hf
  case mval => exact h.mval
  case os => exact hw.1.symm
  case tape => exact hw.2.1.symm
  case output => exact hw.2.2.1.symm
  case size => exact hw.2.2.2.1
  case kept => exact hw.2.2.2.2.1
  case perm =>
    intro i x b f hx hc
    obtain ⟨n, y, hn, hy, rfl, _⟩ := getO i x hx
    rw [claim_ren (hφ i n hn)] at hc
    exact hperm i n y b f hn hy hc
  case csz =>
    intro i x b f hx hc
    obtain ⟨n, y, hn, hy, rfl, _⟩ := getO i x hx
    rw [claim_ren (hφ i n hn)] at hc
    exact h.csz n y b f hy hc
  case mle => exact hw.2.2.2.2.2.1
  case mnew => exact hw.2.2.2.2.2.2.1
  case drawn => exact hw.2.2.2.2.2.2.2
  case ext => exact hext

/-- **What a function's contract is**: called with what the plain values stand for, it returns, and what it leaves is what the result says. -/
def CallOK (E : Env S) (f : FuncId) (args : List (TV S)) (objs : List (Obj S)) (res : Res S) : Prop :=
  (∃ fn, E.P.funcs[f]? = some fn ∧ (fn.name == "runtime.NumGoroutine") = false ∧ fn.body.isNone = false) ∧
  ∀ (B : Base) (vals : Array Value), B.m = objs.length → args.length = vals.size → (∀ (i : Nat) (tv : TV S) (v : Value), args[i]? = some tv → vals[i]? = some v → VR E B.φ B.M tv v) →
    RelW E B (fun i => objs[i]?) B.w B.φ B.M →
    Calls E.P f vals B.w fun e w' => ∃ v φ' M', e = .returned v ∧ VR E φ' M' res.v v ∧ RelW E B (fun i => (res.xs.getD objs ++ res.ns)[i]?) w' φ' M'

/-- The table of contracts says what is so. -/
def CallfOK (E : Env S) : Prop :=
  ∀ (f : FuncId) (args : List (TV S)) (objs : List (Obj S)) (R : Type) (k : Res S → Option R) (r : R), E.callf f args objs R k = some r → ∃ res, k res = some r ∧ CallOK E f args objs res

section
variable {R : Type} {k : Eff S → Option R} {r : R} {t : Nat → TV S} {ob : Nat → Option (Obj S)} {base : Nat} {o : Oper}

theorem asTree_VR (HE : EncOk E) {B : Base} {ob' : Nat → Option (Obj S)} {w : World} {φ : Phi} {M : Mem} {x y : TV S} {v : Value} (h : RelW E B ob' w φ M) (hag : ∀ n ∈ namesOf x, ob' n = ob n) (ha : asTree ob x = some y) (hv : VR E φ M x v) : VR E φ M y v := by
  have conv : ∀ {z : TV S}, pureOf ob x = some z → (∀ nm ∈ rowName x, ∀ c xs m, ob nm = some (.row c xs m) → m ≠ .own) → VR E φ M z v := by
    intro z hz hm
    refine .pure (pureOf_CR h hz (fun nm hnm c xs m hob => ⟨m, hm nm hnm c xs m hob, id, ?_⟩) HE hv)
    rw [hag nm ?_]
    · exact hob
    · cases x <;> simp [rowName] at hnm <;> simp [namesOf, hnm]
  unfold asTree at ha
  split at ha
  · rename_i nm
    split at ha
    · rename_i c xs hob
      cases ha
      exact conv (by simp [pureOf, hob, tokM]) (fun n hn c' xs' m' h' => by simp [rowName] at hn; subst hn; rw [hob] at h'; injection h' with h'; injection h' with _ _ h5; rw [← h5]; simp)
    · rename_i c xs hob
      split at ha
      · rename_i htok
        cases ha
        exact conv (by simp [pureOf, hob, tokM, htok]) (fun n hn c' xs' m' h' => by simp [rowName] at hn; subst hn; rw [hob] at h'; injection h' with h'; injection h' with _ _ h5; rw [← h5]; simp)
      · cases ha
    · cases ha
  · rename_i nm of len
    split at ha
    · rename_i c xs hob
      split at ha
      · rename_i htok
        cases ha
        exact conv (by simp [pureOf, hob, htok]) (fun n hn c' xs' m' h' => by simp [rowName] at hn; subst hn; rw [hob] at h'; injection h' with h'; injection h' with _ _ h5; rw [← h5]; simp)
      · cases ha
    · rename_i c xs hob
      split at ha
      · rename_i htok
        cases ha
        exact conv (by simp [pureOf, hob, htok]) (fun n hn c' xs' m' h' => by simp [rowName] at hn; subst hn; rw [hob] at h'; injection h' with h'; injection h' with _ _ h5; rw [← h5]; simp)
      · cases ha
    · cases ha
  · cases ha; exact hv

theorem asTreeA_VR (HE : EncOk E) {B : Base} {ob' : Nat → Option (Obj S)} {w : World} {φ : Phi} {M : Mem} {x y : TV S} {v : Value} (h : RelW E B ob' w φ M) (hag : ∀ n ∈ namesOf x, ob' n = ob n) (ha : asTreeA ob x = some y) (hv : VR E φ M x v) : VR E φ M y v := by
  cases x with
  | agg cs =>
    cases ha
    cases hv with
    | pure c => cases c
    | agg hl hc =>
      refine .agg (by simpa using hl) fun i tv u h1 h2 => ?_
      rw [List.getElem?_map] at h1
      obtain ⟨z, hz, rfl⟩ := Option.map_eq_some_iff.1 h1
      have hvz := hc i z u hz h2
      cases haz : asTree ob z with
      | none => exact hvz
      | some y => exact asTree_VR HE h (fun n hn => hag n (by simp only [namesOf]; exact namesL_mem hz hn)) haz hvz
  | _ => exact asTree_VR HE h hag ha hv

theorem share_VR (HE : EncOk E) {B : Base} {ob' : Nat → Option (Obj S)} {w : World} {φ : Phi} {M : Mem} {f : FuncId} (h : RelW E B ob' w φ M) : ∀ (l : List (TV S)) (j : Nat) (l' : List (TV S)), (∀ n ∈ namesL l, ob' n = ob n) → shareArgs E ob f j l = some l' →
    l'.length = l.length ∧ ∀ (i : Nat) (x : TV S) (v : Value), l[i]? = some x → VR E φ M x v → ∃ y, l'[i]? = some y ∧ VR E φ M y v
  | [], j, l', _, hs => by simp only [shareArgs, Option.some.injEq] at hs; subst hs; simp
  | x :: r, j, l', hag, hs => by
    simp only [shareArgs] at hs
    split at hs
    · rename_i r' h2
      cases hs
      obtain ⟨h3, h4⟩ := share_VR HE h r (j + 1) r' (fun n hn => hag n (by simp only [namesL, List.mem_append]; exact .inr hn)) h2
      refine ⟨by simp [h3], fun i z v hz hv => ?_⟩
      cases i with
      | zero =>
        simp at hz; subst hz
        refine ⟨_, by simp; rfl, ?_⟩
        split
        · exact hv
        · cases ha : asTreeA ob x with
          | none => exact hv
          | some y => exact asTreeA_VR HE h (fun n hn => hag n (by simp only [namesL, List.mem_append]; exact .inl hn)) ha hv
      | succ i => simpa using h4 i z v (by simpa using hz) hv
    · cases hs

theorem setAll_zip {α : Type} : ∀ (ks : List Nat) (xs : List α) (f : Nat → Option α), ks.Nodup → ks.length = xs.length → ∀ (i n : Nat), ks[i]? = some n → setAll f (ks.zip xs) n = xs[i]?
  | [], _, _, _, _, i, n, h => by simp at h
  | k :: ks, [], _, _, hl, _, _, _ => by simp at hl
  | k :: ks, x :: xs, f, hnd, hl, i, n, h => by
    simp only [List.zip_cons_cons]
    show setAll (setF f k (some x)) (ks.zip xs) n = _
    rw [List.nodup_cons] at hnd
    cases i with
    | zero =>
      simp at h; subst h
      rw [setAll_not, setF_self]
      · simp
      · intro hc
        simp only [List.mem_map] at hc
        obtain ⟨p, hp, e⟩ := hc
        exact hnd.1 (e ▸ (List.of_mem_zip hp).1)
    | succ i =>
      rw [setAll_zip ks xs _ hnd.2 (by simpa using hl) i n (by simpa using h)]
      simp
theorem zip_names {α : Type} (ks : List Nat) (xs : List α) : ∀ n ∈ (ks.zip xs).map (·.1), n ∈ ks := by
  intro n hn
  simp only [List.mem_map] at hn
  obtain ⟨p, hp, e⟩ := hn
  exact e ▸ (List.of_mem_zip hp).1
theorem setAll_new {α : Type} (base : Nat) : ∀ (l : List α) (k : Nat) (g : Nat → Option α) (h : α → α), ∀ n, setAll g ((l.zipIdx k).map fun p => (base + p.2, h p.1)) n = if base + k ≤ n ∧ n < base + k + l.length then (l[n - (base + k)]?).map h else g n
  | [], k, g, h, n => by simp [setAll]; omega
  | x :: r, k, g, h, n => by
    simp only [List.zipIdx_cons, List.map_cons, List.length_cons]
    show setAll (setF g (base + k) (some (h x))) _ n = _
    rw [setAll_new base r (k + 1) _ h n]
    by_cases h1 : base + (k + 1) ≤ n ∧ n < base + (k + 1) + r.length
    · rw [if_pos h1, if_pos (by omega), show n - (base + k) = (n - (base + (k + 1))) + 1 by omega]
      simp
    · rw [if_neg h1]
      by_cases h2 : n = base + k
      · subst h2
        rw [setF_self, if_pos (by omega)]; simp
      · rw [setF_ne _ _ h2, if_neg (by omega)]

theorem enter_call {f : Operand} {args : Array Operand} {ts : Array TypeId} {g : FuncId} {as : List (TV S)} {fn : Func} {w : World} {φ : Phi} {M : Mem} {a : Act} (ho : o.op = .call { callee := .value f, args, argTypes := ts })
    (hg : (∃ cap, ev t f = .fn g cap ∧ as = args.toList.map (ev t) ++ cap) ∨ ∃ first, ev t f = .mv g first ∧ as = first ++ args.toList.map (ev t)) (hfn : E.P.funcs[g]? = some fn) (hname : (fn.name == "runtime.NumGoroutine") = false) (hbody : fn.body.isNone = false)
    (hev : ∀ x ∈ o.op.operands, VR E φ M (ev t x) (a.eval x)) :
    ∃ vals : Array Value, (execOp a.eval o).run E.P w = .ok (.enter g vals) w ∧ (as.length = vals.size ∧ ∀ (i : Nat) (x : TV S) (v : Value), as[i]? = some x → vals[i]? = some v → VR E φ M x v) := by
  have vf : VR E φ M (ev t f) (a.eval f) := hev f (by rw [ho]; simp [Op.operands, Call.operands])
  have vargs : ∀ x ∈ args.toList, VR E φ M (ev t x) (a.eval x) := fun x hx => hev x (by rw [ho]; simp [Op.operands, Call.operands]; exact .inr (by simpa using hx))
  have run : ∀ (f1 c1 : Array Value), a.eval f = .func (.func g) f1 c1 → (execOp a.eval o).run E.P w = .ok (.enter g (f1 ++ args.map a.eval ++ c1)) w := by
    intro f1 c1 ef
    obtain ⟨dst, op', ty', pos, after, guard⟩ := o
    subst ho
    simp only [execOp, resolve, ef]
    rw [run_bind]
    show (match Sem.run E.P (Deferred.ofValue (.func (.func g) f1 c1) (args.map a.eval)) w with | .ok d w' => _ | .halt h w' => Result.halt h w') = _
    simp only [Deferred.ofValue, run_pure, invoke, callFunc]
    rw [run_bind]
    show Sem.run E.P (match E.P.funcs[g]? with | none => _ | some fn => _) w = _
    rw [hfn]
    simp only [hname, Bool.false_eq_true, if_false, hbody, run_pure]
  have two : ∀ (xs ys : List (TV S)) (us vs : Array Value), xs.length = us.size → ys.length = vs.size → (∀ (i : Nat) (x : TV S) (v : Value), xs[i]? = some x → us[i]? = some v → VR E φ M x v) → (∀ (i : Nat) (x : TV S) (v : Value), ys[i]? = some x → vs[i]? = some v → VR E φ M x v) →
      (xs ++ ys).length = (us ++ vs).size ∧ ∀ (i : Nat) (x : TV S) (v : Value), (xs ++ ys)[i]? = some x → (us ++ vs)[i]? = some v → VR E φ M x v := by
    intro xs ys us vs h1 h2 h3 h4
    refine ⟨by simp [h1, h2], fun i x v hx hv => ?_⟩
    by_cases hi : i < xs.length
    · rw [List.getElem?_append_left hi] at hx
      rw [Array.getElem?_append_left (by omega)] at hv
      exact h3 i x v hx hv
    · rw [List.getElem?_append_right (by omega)] at hx
      rw [Array.getElem?_append_right (by omega), ← h1] at hv
      exact h4 _ x v hx hv
  have va : ∀ (i : Nat) (x : TV S) (v : Value), (args.toList.map (ev t))[i]? = some x → (args.map a.eval)[i]? = some v → VR E φ M x v := by
    intro i x v hx hv
    have hi : i < args.size := by have := (List.getElem?_eq_some_iff.1 hx).1; simpa using this
    simp [hi] at hx hv
    subst hx; subst hv
    exact vargs _ (by simp)
  rcases hg with ⟨cap, hg, rfl⟩ | ⟨first, hg, rfl⟩
  · rw [hg] at vf
    obtain ⟨cvs, ef, hcl, hcv⟩ := vf.fn_inv
    refine ⟨args.map a.eval ++ cvs, by rw [run _ _ ef]; simp, two _ _ _ _ (by simp) hcl va hcv⟩
  · rw [hg] at vf
    obtain ⟨cvs, ef, hcl, hcv⟩ := vf.mv_inv
    refine ⟨cvs ++ args.map a.eval, by rw [run _ _ ef]; simp, two _ _ _ _ hcl (by simp) hcv va⟩
mutual
theorem sameTV_eq : ∀ (a b : TV S), sameTV a b = true → a = b
  | .bool a, .bool b, h => by simp only [sameTV, beq_iff_eq] at h; rw [h]
  | .int j a, .int k b, h => by simp only [sameTV, Bool.and_eq_true, decide_eq_true_eq] at h; rw [h.1, h.2]
  | .str a, .str b, h => by simp only [sameTV, beq_iff_eq] at h; rw [h]
  | .nilp, .nilp, _ => rfl
  | .nils, .nils, _ => rfl
  | .nilm, .nilm, _ => rfl
  | .nilf, .nilf, _ => rfl
  | .nili, .nili, _ => rfl
  | .ptr a b c, .ptr a' b' c', h => by simp only [sameTV, Bool.and_eq_true] at h; rw [Nat.eq_of_beq_eq_true h.1, Nat.eq_of_beq_eq_true h.2.1, Nat.eq_of_beq_eq_true h.2.2]
  | .rs a b c, .rs a' b' c', h => by simp only [sameTV, Bool.and_eq_true] at h; rw [Nat.eq_of_beq_eq_true h.1, Nat.eq_of_beq_eq_true h.2.1, Nat.eq_of_beq_eq_true h.2.2]
  | .map a, .map b, h => by simp only [sameTV] at h; rw [Nat.eq_of_beq_eq_true h]
  | .fn f a, .fn g b, h => by simp only [sameTV, Bool.and_eq_true, decide_eq_true_eq] at h; rw [h.1, sameL_eq a b h.2]
  | .mv f a, .mv g b, h => by simp only [sameTV, Bool.and_eq_true, decide_eq_true_eq] at h; rw [h.1, sameL_eq a b h.2]
theorem sameL_eq : ∀ (a b : List (TV S)), sameL a b = true → a = b
  | [], [], _ => rfl
  | a :: x, b :: y, h => by simp only [sameL, Bool.and_eq_true] at h; rw [sameTV_eq a b h.1, sameL_eq x y h.2]
end
theorem sameObj_eq {a b : Obj S} (h : sameObj a b = true) : a = b := by
  unfold sameObj at h
  split at h
  · rfl
  · rw [sameL_eq _ _ h]
  · simp only [Bool.and_eq_true] at h; rw [Nat.eq_of_beq_eq_true h.1, sameL_eq _ _ h.2]
  · cases h
theorem prune_set {ob : Nat → Option (Obj S)} : ∀ (l : List (Nat × Obj S)) (f : Nat → Option (Obj S)), (l.map (·.1)).Nodup → (∀ p ∈ l, f p.1 = ob p.1) → setAll f (l.filter (keepWr ob)) = setAll f l
  | [], _, _, _ => rfl
  | p :: r, f, hn, hf => by
    simp only [List.map_cons, List.nodup_cons] at hn
    have hr : setAll (setF f p.1 (some p.2)) (r.filter (keepWr ob)) = setAll (setF f p.1 (some p.2)) r := prune_set r _ hn.2 fun q hq => by
      have hne : q.1 ≠ p.1 := fun e => hn.1 (by rw [← e]; exact List.mem_map_of_mem hq)
      rw [setF_ne _ _ hne]
      exact hf q (List.mem_cons_of_mem _ hq)
    have hp : f p.1 = ob p.1 := hf p (List.mem_cons_self ..)
    have one : ∀ x, ob p.1 = some x → sameObj x p.2 = true → setF f p.1 (some p.2) = f := by
      intro x hx hs
      have := sameObj_eq hs
      subst this
      funext n
      by_cases e : n = p.1
      · subst e; rw [setF_self, hp, hx]
      · exact setF_ne _ _ e
    cases hb : keepWr ob p with
    | true => rw [List.filter_cons_of_pos hb]; exact hr
    | false =>
      rw [List.filter_cons_of_neg (by rw [hb]; simp)]
      unfold keepWr at hb
      split at hb
      · rename_i x hx
        have hs : sameObj x p.2 = true := by simpa using hb
        show setAll f _ = setAll (setF f p.1 (some p.2)) r
        rw [← hr, one x hx hs]
      · cases hb
theorem OpOK.prune {v : TV S} {rd : List Nat} {l m : List (Nat × Obj S)} {nx : Nat} (hn : (l.map (·.1)).Nodup) (hr : ∀ p ∈ l, p.1 ∈ rd) (hm : ∀ n, base ≤ n → n < nx → n ∈ m.map (·.1)) (h : OpOK E o t ob base ⟨v, rd, l ++ m, nx⟩) : OpOK E o t ob base ⟨v, rd, pruneWr E ob l ++ m, nx⟩ := by
  unfold pruneWr
  cases hraw : E.raw 0 with
  | false => exact h
  | true =>
    obtain ⟨h1, h2, h3, h4⟩ := h
    refine ⟨h1, fun p hp => h2 p ?_, fun n q1 q2 => ?_, ?_⟩
    · simp only [cond_true, List.mem_append, List.mem_filter] at hp ⊢
      exact hp.imp (·.1) id
    · rw [List.map_append, List.mem_append]; exact .inr (hm n q1 q2)
    · intro B nt t' ob' a w φ M Q hd hev hrd hfr hB hrel
      have := h4 B nt t' ob' a w φ M Q hd hev hrd hfr hB hrel
      simp only [cond_true]
      rw [setAll_append] at this ⊢
      rw [prune_set l ob' hn fun p hp => hrd _ (hr p hp)]
      exact this
theorem zipBack_nodup {ks : List Nat} {xs : Option (List (Obj S))} (hn : ks.Nodup) (hx : xsOk ks.length xs = true) : ((zipBack ks base xs).map (·.1)).Nodup := by
  cases xs with
  | none => exact List.nodup_nil
  | some xs =>
    simp only [xsOk, beq_iff_eq] at hx
    show ((ks.zip (xs.map _)).map Prod.fst).Nodup
    rw [List.map_fst_zip (by simp [hx])]
    exact hn
theorem ok_call (hE : EnvOk E) (hf : CallfOK E) {f : Operand} {args : Array Operand} {ts : Array TypeId} {g : FuncId} {as : List (TV S)} (ho : o.op = .call { callee := .value f, args, argTypes := ts })
    (hg : (∃ cap, ev t f = .fn g cap ∧ as = args.toList.map (ev t) ++ cap) ∨ ∃ first, ev t f = .mv g first ∧ as = first ++ args.toList.map (ev t)) (h : callEval E ob base g as k = some r) : ∃ ef, k ef = some r ∧ OpOK E o t ob base ef := by
  unfold callEval at h
  split at h
  · cases h
  · rename_i args' hshare
    simp only at h
    split at h
    · rename_i hclosed
      obtain ⟨res, hres, ⟨fn, hfn, hname, hbody⟩, hcall⟩ := hf _ _ _ _ _ _ h
      split at hres
      · rename_i hxs
        refine ⟨_, hres, ?_⟩
        generalize hks : reach ob 400 (namesL args') [] = ks at *
        have hnd : ks.Nodup := by rw [← hks]; exact reach_nodup ob 400 _ _ (by simp)
        have hrd1 : ∀ (rest : List Nat), ∀ n ∈ ks, n ∈ rest ++ ks := fun rest n hn => by simp [hn]
        refine OpOK.prune (m := res.ns.zipIdx.map _) ?_ ?_ ?_ ?_
        · exact zipBack_nodup hnd hxs
        · intro p hp
          have hpk : p.1 ∈ ks := by
            cases hx : res.xs with
            | none => rw [hx] at hp; simp [zipBack] at hp
            | some xs => rw [hx] at hp; exact (List.of_mem_zip hp).1
          exact hrd1 _ _ hpk
        · intro n h1 h2
          simp only [List.map_map, List.mem_map, Function.comp_apply]
          refine ⟨(res.ns[n - base]'(by omega), n - base), ?_, by simp only; omega⟩
          rw [List.mem_iff_getElem?]
          exact ⟨n - base, by rw [List.getElem?_zipIdx, List.getElem?_eq_getElem (by omega)]; simp⟩
        refine ⟨by simp, fun p hp => ?_, fun n h1 h2 => ?_, ?_⟩
        · simp only [List.mem_append] at hp
          rcases hp with hp | hp
          · right
            have hpk : p.1 ∈ ks := by
              cases hx : res.xs with
              | none => rw [hx] at hp; simp [zipBack] at hp
              | some xs => rw [hx] at hp; exact (List.of_mem_zip hp).1
            obtain ⟨x, hx, _⟩ := closed_objs hclosed hpk
            exact ⟨hrd1 _ _ hpk, by rw [hx]; simp⟩
          · left
            simp only [List.mem_map] at hp
            obtain ⟨q, hq, rfl⟩ := hp
            have := List.mem_zipIdx hq
            simp only; omega
        · simp only at h2
          simp only [List.map_append, List.mem_append, List.map_map, List.mem_map, Function.comp_apply]
          right
          refine ⟨(res.ns[n - base]'(by omega), n - base), ?_, by simp only; omega⟩
          rw [List.mem_iff_getElem?]
          exact ⟨n - base, by rw [List.getElem?_zipIdx, List.getElem?_eq_getElem (by omega)]; simp⟩
        · intro B nt t' ob' a w φ M Q hd hev hrd hfr hB hrel
          -- agreement
          have hagA : ∀ n ∈ namesL (as), ob' n = ob n := fun n hn => hrd n (by simp [hn])
          have hagK : ∀ n ∈ ks, ob' n = ob n := fun n hn => hrd n (by simp [hn])
          have hclosed' : closedUnder ob' ks (namesL args') = true := by
            simp only [closedUnder, Bool.and_eq_true, List.all_eq_true] at hclosed ⊢
            exact ⟨hclosed.1, fun n hn => by rw [hagK n hn]; exact hclosed.2 n hn⟩
          obtain ⟨vals, hrun, hVR⟩ := enter_call (w := w) ho hg hfn hname hbody hev
          rw [hrun]
          show Calls E.P g vals w _
          obtain ⟨hsl, hsv⟩ := share_VR hE.toEncOk (f := g) hrel.mem _ 0 args' hagA hshare
          let own : Nat → Prop := fun b => ∃ n x fr, n ∈ ks ∧ ob' n = some x ∧ claim φ n x b fr
          let φc : Phi := fun (i : Nat) => (ks[i]?).bind φ
          let Bc : Base := ⟨w, own, M, φc, ks.length⟩
          have hstart : RelW E Bc (fun (i : Nat) => (ks[i]?).map fun n => renObj (fun n => ks.idxOf n) ((ob' n).getD .gone)) w φc M :=
            hrel.mem.tidy hnd hclosed' ⟨rfl, rfl, rfl, Nat.le_refl _, fun _ _ _ => rfl, Mem.le_refl _, fun b off hd => absurd rfl hd, Nat.le_refl _⟩
              (fun i n x b fr hi hx hc => .inr ⟨n, x, fr, List.mem_of_getElem? hi, hx, hc⟩) (fun i _ => rfl)
          have hobjs : (fun (i : Nat) => (ks[i]?).map fun n => renObj (fun n => ks.idxOf n) ((ob' n).getD .gone)) = fun (i : Nat) => (ks.map fun n => renObj (fun n => ks.idxOf n) ((ob n).getD .gone))[i]? := by
            funext i
            rw [List.getElem?_map]
            cases hk : ks[i]? with
            | none => rfl
            | some n => simp only [Option.map_some]; rw [hagK n (List.mem_of_getElem? hk)]
          rw [hobjs] at hstart
          refine (hcall Bc vals (by simp [Bc]) (by rw [renL_length, hsl]; exact hVR.1) (fun i tv v h1 h2 => ?_) hstart).mono ?_
          · rw [renL_get] at h1
            obtain ⟨y, hy, rfl⟩ := Option.map_eq_some_iff.1 h1
            have hi : i < (as).length := by rw [← hsl]; exact (List.getElem?_eq_some_iff.1 hy).1
            obtain ⟨x, hx⟩ : ∃ x, (as)[i]? = some x := ⟨_, List.getElem?_eq_getElem hi⟩
            obtain ⟨y', hy', hv'⟩ := hsv i x v hx (hVR.2 i x v hx h2)
            rw [hy] at hy'; cases hy'
            refine hv'.ren fun n hn g' hg' => ?_
            show (ks[ks.idxOf n]?).bind φ = some g'
            rw [get_idx (closed_roots hclosed (namesL_mem hy hn))]; exact hg'
          · rintro e w' ⟨v, φ2, M2, rfl, hv, hW⟩
            -- the objects, as they are now, by the caller's names
            generalize hobj0 : (ks.map fun n => renObj (fun n => ks.idxOf n) ((ob n).getD .gone)) = objs at *
            have hol : objs.length = ks.length := by rw [← hobj0]; simp
            let fx : List (Obj S) := res.xs.getD objs
            have hfl : fx.length = ks.length := by
              simp only [fx]
              cases hx : res.xs with
              | none => exact hol
              | some xs => rw [hx] at hxs; simpa [xsOk] using hxs
            let bk := backTo ks base
            let φ' : Phi := fun n => if base ≤ n ∧ n < base + res.ns.length then φ2 (ks.length + (n - base)) else if n ∈ ks then φ2 (ks.idxOf n) else φ n
            have hnew : ∀ n, base ≤ n → n < base + res.ns.length → ob' n = none := fun n h1 h2 => hfr n h1 h2
            have hksnew : ∀ n ∈ ks, ¬ (base ≤ n ∧ n < base + res.ns.length) := by
              rintro n hn ⟨h1, h2⟩
              obtain ⟨x, hx, _⟩ := closed_objs hclosed' hn
              rw [hnew n h1 h2] at hx; cases hx
            have hφks : ∀ (i n : Nat), ks[i]? = some n → φ' n = φ2 i ∧ (φ2 i).map GI.strip = (φ n).map GI.strip := by
              intro i n hi
              have hmem := List.mem_of_getElem? hi
              refine ⟨(if_neg (hksnew n hmem)).trans ((if_pos hmem).trans (by rw [idx_get hnd hi])), ?_⟩
              rw [hW.ext i (List.getElem?_eq_some_iff.1 hi).1]
              show ((ks[i]?).bind φ).map GI.strip = _
              rw [hi]; rfl
            have hback : ∀ j g', φ2 j = some g' → φ' (bk j) = some g' := by
              intro j g' hj
              show φ' (backTo ks base j) = _
              unfold backTo
              cases hk : ks[j]? with
              | some n =>
                simp only
                obtain ⟨h1, h2⟩ := hφks j n hk
                rw [h1]; exact hj
              | none =>
                simp only
                have hge : ks.length ≤ j := List.getElem?_eq_none_iff.1 hk
                have hlt : j - ks.length < res.ns.length := by
                  rcases Nat.lt_or_ge (j - ks.length) res.ns.length with h' | h'
                  · exact h'
                  · have := hW.fresh j (by
                      show (fx ++ res.ns)[j]? = none
                      rw [List.getElem?_eq_none_iff, List.length_append]; omega)
                    rw [hj] at this; cases this
                show (if _ then _ else _) = _
                rw [if_pos (by omega)]
                rw [show ks.length + (base + (j - ks.length) - base) = j by omega]; exact hj
            have hφle : φ.le φ' := by
              intro n g' hn
              by_cases hr : base ≤ n ∧ n < base + res.ns.length
              · rw [hrel.mem.fresh n (hnew n hr.1 hr.2)] at hn; cases hn
              · by_cases hk : n ∈ ks
                · obtain ⟨i, hi⟩ := List.mem_iff_getElem?.1 hk
                  obtain ⟨h1, h2⟩ := hφks i n hi
                  rw [hn] at h2
                  obtain ⟨g2, h3, h4⟩ := Option.map_eq_some_iff.1 h2
                  exact ⟨g2.F, by rw [h1, h3]; exact congrArg some (GI.strip_eq h4)⟩
                · exact ⟨g'.F, (if_neg hr).trans ((if_neg hk).trans hn)⟩
            let wr : List (Nat × Obj S) := zipBack ks base res.xs ++ (res.ns.zipIdx.map fun p => (base + p.2, renObj bk p.1))
            have hwrK : ∀ (i n : Nat), ks[i]? = some n → ∃ y, fx[i]? = some y ∧ setAll ob' wr n = some (renObj bk y) := by
              intro i n hi
              obtain ⟨y, hy⟩ : ∃ y, fx[i]? = some y := ⟨_, List.getElem?_eq_getElem (by rw [hfl]; exact (List.getElem?_eq_some_iff.1 hi).1)⟩
              refine ⟨y, hy, ?_⟩
              have hnn := hksnew n (List.mem_of_getElem? hi)
              simp only [wr, setAll_append]
              rw [setAll_new base res.ns 0 _ (renObj bk) n, if_neg (by simpa using hnn)]
              cases hx : res.xs with
              | some xs =>
                simp only [fx, hx, Option.getD_some] at hy hfl
                simp only [zipBack]
                rw [setAll_zip ks _ ob' hnd (by simp [hfl]) i n hi, List.getElem?_map, hy]; rfl
              | none =>
                simp only [fx, hx, Option.getD_none] at hy
                simp only [zipBack, setAll]
                rw [← hobj0, List.getElem?_map, hi] at hy
                simp only [Option.map_some, Option.some.injEq] at hy
                obtain ⟨x, hx', hm⟩ := closed_objs hclosed' (List.mem_of_getElem? hi)
                rw [← hagK n (List.mem_of_getElem? hi), hx'] at hy
                simp only [Option.getD_some] at hy
                rw [hx', ← hy]
                congr 1
                symm
                refine renObj_renObj x fun m hmx => ?_
                show backTo ks base (ks.idxOf m) = m
                unfold backTo
                rw [get_idx (hm m hmx)]
            have hwrN : ∀ n, base ≤ n → n < base + res.ns.length → setAll ob' wr n = (res.ns[n - base]?).map (renObj bk) := by
              intro n h1 h2
              simp only [wr, setAll_append]
              rw [setAll_new base res.ns 0 _ (renObj bk) n, if_pos (by omega)]; simp
            have hwrO : ∀ n, ¬ (n ∈ ks ∨ (base ≤ n ∧ n < base + res.ns.length)) → setAll ob' wr n = ob' n := by
              intro n hn
              simp only [wr, setAll_append]
              rw [setAll_new base res.ns 0 _ (renObj bk) n, if_neg (by simp; omega)]
              refine setAll_not _ _ fun hc => ?_
              cases hx : res.xs with
              | none => rw [hx] at hc; simp [zipBack] at hc
              | some xs => rw [hx] at hc; exact hn (.inl (zip_names _ _ n hc))
            -- by whichever name: the callee's index
            have hidx : ∀ n x, (n ∈ ks ∨ (base ≤ n ∧ n < base + res.ns.length)) → setAll ob' wr n = some x → ∃ i y, (fx ++ res.ns)[i]? = some y ∧ x = renObj bk y ∧ bk i = n ∧ φ' n = φ2 i := by
              intro n x hn hx
              rcases hn with hn | ⟨h1, h2⟩
              · obtain ⟨i, hi⟩ := List.mem_iff_getElem?.1 hn
                obtain ⟨y, hy, hs⟩ := hwrK i n hi
                rw [hx] at hs; cases hs
                refine ⟨i, y, by rw [List.getElem?_append_left (List.getElem?_eq_some_iff.1 hy).1]; exact hy, rfl, ?_, ?_⟩
                · show backTo ks base i = n
                  unfold backTo; rw [hi]
                · exact (hφks i n hi).1
              · rw [hwrN n h1 h2] at hx
                obtain ⟨y, hy, rfl⟩ := Option.map_eq_some_iff.1 hx
                refine ⟨ks.length + (n - base), y, ?_, rfl, ?_, if_pos ⟨h1, h2⟩⟩
                · rw [List.getElem?_append_right (by omega)]
                  rw [← hy]; congr 1; omega
                · show backTo ks base _ = n
                  unfold backTo
                  rw [List.getElem?_eq_none_iff.2 (by omega)]
                  simp only; omega
            have hWnew : RelW E B (setAll ob' wr) w' φ' M2 := by
              refine hrel.mem.step2 hE.toEncOk (fun n => n ∈ ks ∨ (base ≤ n ∧ n < base + res.ns.length)) own hφle hW.mle hW.size hW.os hW.tape hW.output (fun b hb hn => hW.kept b hb hn) ?_ ?_ ?_ ?_ ?_ ?_ ?_ ?_ ?_ hW.drawn
              · rintro b ⟨n, x, fr, hn, hx, hc⟩
                refine ⟨n, x, fr, .inl hn, hx, hc, fun off hoff => ?_⟩
                -- the cells below are those of a row that does not change
                have hcell : ∃ u, M b off = some u := by
                  cases x with
                  | gone => exact absurd hc claim_gone
                  | deep c xs => have := hc.choose_spec.2.2; omega
                  | raw s cs =>
                    obtain ⟨g', hg', _⟩ := hrel.mem.objs n _ hx
                    have := (claim_raw' hg' _ _ hc).2; omega
                  | box cs =>
                    obtain ⟨g', hg', _⟩ := hrel.mem.objs n _ hx
                    have := (claim_box' hg' _ _ hc).2; omega
                  | mapo _ _ _ _ _ _ _ =>
                    obtain ⟨g', hg', _⟩ := hrel.mem.objs n _ hx
                    have := (claim_mapo' hg' _ _ hc).2; omega
                  | iter _ _ _ _ =>
                    obtain ⟨g', _, hg', _⟩ := hrel.mem.objs n _ hx
                    have := (claim_iter' hg' _ _ hc).2; omega
                  | row c xs mm =>
                    obtain ⟨g', hg', hL, hs, _, hr⟩ := hrel.mem.objs n _ hx
                    cases mm with
                    | ro => exact absurd hc claim_ro
                    | own => have := (claim_own' hg' _ _ hc).2; omega
                    | app =>
                      obtain ⟨rfl, rfl⟩ := claim_app' hg' _ _ hc
                      rw [hL, hs] at hoff
                      obtain ⟨i, y, j, tv, p1, p2, p3⟩ := split_pos hE.toEncOk hoff
                      obtain ⟨u, hu, _⟩ := hr.2.1 i y j tv p1 p2
                      exact ⟨u, by rw [p3, ← hs]; exact hu⟩
                obtain ⟨u, hu⟩ := hcell
                rw [hW.mval b off u (hW.mle b off u hu), hrel.mem.mval b off u hu]
              · intro b off hne
                exact (hW.mnew b off hne).symm
              · intro b off v h1 _
                exact hW.mval b off v h1
              · intro n hn
                exact ⟨hwrO n hn, (if_neg fun hc => hn (.inr hc)).trans (if_neg fun hc => hn (.inl hc))⟩
              · intro n x hn hx
                obtain ⟨i, y, hi, rfl, hb, hp⟩ := hidx n x hn hx
                exact (hW.objs i y hi).ren (fun g' hg' => by rw [hp]; exact hg') (fun m _ g' hg' => hback m g' hg')
              · intro n hn hx
                rcases hn with hn | ⟨h1, h2⟩
                · obtain ⟨i, hi⟩ := List.mem_iff_getElem?.1 hn
                  obtain ⟨y, _, hs⟩ := hwrK i n hi
                  rw [hx] at hs; cases hs
                · rw [hwrN n h1 h2, List.getElem?_eq_getElem (by omega)] at hx; cases hx
              · intro n x b fr hn hx hc
                obtain ⟨i, y, hi, rfl, hb, hp⟩ := hidx n x hn hx
                rw [claim_ren hp] at hc
                refine ⟨hW.csz i y b fr hi hc, ?_, fun off hoff => hW.mdis i y b fr off hi hc hoff⟩
                rcases hW.perm i y b fr hi hc with h1 | ⟨n', x', fr', h1, h2, h3⟩
                · exact .inl h1
                · exact .inr ⟨n', x', fr', .inl h1, h2, h3⟩
              · intro n1 n2 x1 x2 b f1 f2 hn1 hn2 hx1 hx2 hc1 hc2
                obtain ⟨i1, y1, hi1, rfl, hb1, hp1⟩ := hidx n1 x1 hn1 hx1
                obtain ⟨i2, y2, hi2, rfl, hb2, hp2⟩ := hidx n2 x2 hn2 hx2
                rw [claim_ren hp1] at hc1
                rw [claim_ren hp2] at hc2
                have := hW.sep i1 i2 y1 y2 b f1 f2 hi1 hi2 hc1 hc2
                rw [← hb1, ← hb2, this]
              · intro n hn
                have h0 : ¬ (base ≤ n ∧ n < base + res.ns.length) := by omega
                by_cases hk : n ∈ ks
                · obtain ⟨i, hi⟩ := List.mem_iff_getElem?.1 hk
                  obtain ⟨h1, h2⟩ := hφks i n hi
                  rw [h1]; exact h2
                · exact congrArg (Option.map GI.strip) ((if_neg h0).trans (if_neg hk))
            exact ⟨φ', M2, hrel.put hd hφle hW.mle (hv.ren fun n _ g' hg' => hback n g' hg') hWnew⟩
      · cases hres
    · cases h
end
end TE
