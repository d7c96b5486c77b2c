/- TE: operations that make objects or write to them: the moves on memory. -/
import Derived.Test.YtkhkbikglgpkoaaGreatTE8
namespace TE
open Go
variable {S : Sig} {E : Env S} {B : Base} {o : Nat → Option (Obj S)} {w : World} {φ : Phi} {M : Mem}

theorem RelW.drew (h : RelW E B o w φ M) : RelW E B o w.drew φ M := by
  constructor
  case objs =>
    intro nm x hx
    have := h.objs nm x hx
    cases x with
    | gone => trivial
    | box cs => exact this
    | raw s cs => exact this
    | row c xs m => cases m <;> exact this
    | deep c xs => obtain ⟨g, hg, hd⟩ := this; exact ⟨g, hg, hd.same fun _ => rfl⟩
    | mapo _ _ _ _ _ _ _ => exact this
    | iter _ _ _ _ => exact this
  case fresh => exact h.fresh
  case sep => exact h.sep
  case mdis => exact h.mdis
  case mval => exact h.mval
  case os => exact h.os
  case tape => exact h.tape
  case output => exact h.output
  case size => exact h.size
  case kept => exact h.kept
  case perm => exact h.perm
  case csz => exact h.csz
  case mle => exact h.mle
  case mnew => exact h.mnew
  case ext => exact h.ext
  case drawn => exact Nat.le_succ_of_le h.drawn

/-- Does an object own its own block alone? -/
def _root_.TE.Obj.flat : Obj S → Prop
  | .deep .. => False
  | _ => True
theorem claim_block {φ : Phi} {nm : Nat} {x : Obj S} {g : GI} {b f : Nat} (hg : φ nm = some g) (h : claim φ nm x b f) (hd : x.flat := by exact True.intro) : b = g.b := by
  have h := claim_gi hg h
  cases x with
  | gone => exact h.elim
  | box cs => exact h.1
  | raw s cs => exact h.2.1
  | row c xs m =>
    cases m with
    | ro => exact h.elim
    | own => exact h.2.1
    | app => exact h.2.1
  | deep _ _ => exact hd.elim
  | mapo _ _ _ _ _ _ _ => exact h.1
  | iter _ _ _ _ => exact h.1

/-- A new object in a new block. -/
theorem RelW.new (hE : EncOk E) (h : RelW E B o w φ M) {nm : Nat} (hn : o nm = none) (hB : B.m ≤ nm) {x : Obj S} {vs : Array Value} {e : TypeId} {g : GI} (hg : g.b = w.heap.size) {M' : Mem} (hM : M.le M')
    (hMn : ∀ b off, M' b off ≠ M b off → b = w.heap.size) (hMv : ∀ off v, M' w.heap.size off = some v → vs[off]? = some v)
    (hcl : ∀ b f off, claim (setF φ nm (some g)) nm x b f → f ≤ off → M' b off = none)
    (hx : ObjR E (setF φ nm (some g)) M' (w.alloc (.cells vs e)) nm x) (hd : x.flat := by exact True.intro) : RelW E B (setF o nm (some x)) (w.alloc (.cells vs e)) (setF φ nm (some g)) M' := by
  have hle : φ.le (setF φ nm (some g)) := Phi.le_of <| by
    intro n' g' h'
    by_cases e : n' = nm
    · subst e; rw [h.fresh n' hn] at h'; cases h'
    · rw [setF_ne _ _ e]; exact h'
  have hnone : ∀ off, M w.heap.size off = none := by
    intro off
    cases hm : M w.heap.size off with
    | none => rfl
    | some v => have := size_of_cell (h.mval _ _ _ hm); omega
  refine h.step hE (· = nm) (fun _ => False) hle hM (by simp) rfl rfl rfl (fun b hb _ => heap_alloc w _ b hb) (fun b hb => hb.elim)
    (fun b off hd => .inr (by rw [hMn b off hd]; exact Nat.le_refl _)) ?_ (fun n' hn' => ⟨setF_ne _ _ hn', setF_ne _ _ hn'⟩) ?_ ?_ ?_ ?_ ?_
  · intro b off v hv hm
    have hb := hMn b off (by rw [hv, hm]; simp)
    subst hb
    rw [at_, World.cell?_alloc_new]; exact hMv off v hv
  · rintro n' y rfl hy
    rw [setF_self] at hy; cases hy; exact hx
  · rintro n' rfl hy
    rw [setF_self] at hy; cases hy
  · rintro n' y b f rfl hy hc
    rw [setF_self] at hy; cases hy
    have hb := claim_block (setF_self φ n' (some g)) hc hd
    refine ⟨by rw [hb, hg]; simp, .inl (by rw [hb, hg]; exact Nat.le_refl _), fun off hf => hcl b f off hc hf⟩
  · rintro n1 n2 _ _ _ _ _ rfl rfl _ _ _ _; rfl
  · intro n' hn'
    have : n' ≠ nm := by omega
    exact setF_ne _ _ this

/-- An object of which less is known. -/
theorem RelW.weak (hE : EncOk E) (h : RelW E B o w φ M) {nm : Nat} {x : Obj S} (hs : o nm ≠ none) (hx : ObjR E φ M w nm x) (hc : ∀ b f, ¬ claim φ nm x b f) : RelW E B (setF o nm (some x)) w φ M := by
  refine h.step hE (· = nm) (fun _ => False) (Phi.le_refl _) (Mem.le_refl _) (Nat.le_refl _) rfl rfl rfl (fun _ _ _ => rfl) (fun b hb => hb.elim) (fun b off hd => absurd rfl hd)
    (fun b off v h1 h2 => by rw [h1] at h2; cases h2) (fun n' hn' => ⟨setF_ne _ _ hn', rfl⟩) ?_ ?_ ?_ ?_ (fun _ _ => rfl)
  · rintro n' y rfl hy
    rw [setF_self] at hy; cases hy; exact hx
  · rintro n' rfl hy
    rw [setF_self] at hy; cases hy
  · rintro n' y b f rfl hy hcl
    rw [setF_self] at hy; cases hy
    exact absurd hcl (hc b f)
  · rintro n1 n2 _ _ _ _ _ rfl rfl _ _ _ _; rfl

theorem RelW.gone (hE : EncOk E) (h : RelW E B o w φ M) {nm : Nat} (hs : o nm ≠ none) : RelW E B (setF o nm (some .gone)) w φ M := h.weak hE hs trivial fun _ _ => claim_gone
theorem RelW.appRo (hE : EncOk E) (h : RelW E B o w φ M) {nm : Nat} {c : S.K} {xs : List (S.El c)} (hs : o nm = some (.row c xs .app)) : RelW E B (setF o nm (some (.row c xs .ro))) w φ M := by
  refine h.weak hE (by rw [hs]; simp) ?_ fun _ _ => claim_ro
  obtain ⟨g, hg, hL, hs', hle, hr⟩ := h.objs nm _ hs
  exact ⟨g, hg, hL, hs', .inl rfl, hr.2.1⟩

/-- Memory with the cells of one block, up to a place, as they are now. -/
def freezeM (M : Mem) (w : World) (b n : Nat) : Mem := fun b' off => if b' = b ∧ off < n then w.cell? (at_ b off) else M b' off

theorem freezeM_le (h : RelW E B o w φ M) {b n : Nat} : M.le (freezeM M w b n) := by
  intro b' off v hv
  unfold freezeM
  split
  · rename_i hb
    obtain ⟨rfl, _⟩ := hb
    exact h.mval _ _ _ hv
  · exact hv
theorem CR.freeze (h : RelW E B o w φ M) {b n : Nat} {tv : TV S} {v : Value} (hc : CR E M tv v) : CR E (freezeM M w b n) tv v := hc.mono (freezeM_le h)

/-- A row of the call's own changes no more. -/
theorem RelW.freeze (hE : EncOk E) (h : RelW E B o w φ M) {nm : Nat} {c : S.K} {xs : List (S.El c)} (hs : o nm = some (.row c xs .own)) :
    ∃ M', M.le M' ∧ RelW E B (setF o nm (some (.row c xs .ro))) w φ M' := by
  obtain ⟨g, hg, hL, hs', hle, hr⟩ := h.objs nm _ hs
  have hle : g.L * g.s ≤ g.n := hle.resolve_left (by intro e; cases e)
  by_cases hz : g.n = 0
  · -- nothing in it
    have hnil : xs = [] := by
      cases xs with
      | nil => rfl
      | cons x r =>
        have hp := hE.pos c
        rw [hz, hL, hs'] at hle
        simp only [List.length_cons] at hle
        have : 0 < (r.length + 1) * E.sz c := Nat.mul_pos (by omega) (by omega)
        omega
    subst hnil
    refine ⟨M, Mem.le_refl _, h.weak hE (by rw [hs]; simp) ⟨g, hg, hL, hs', .inl rfl, fun i x j tv hi => by simp at hi⟩ fun _ _ => claim_ro⟩
  · refine ⟨freezeM M w g.b (g.L * g.s), freezeM_le h, ?_⟩
    have hcl : claim φ nm (.row c xs .own) g.b 0 := claim_own hg hz
    refine h.step hE (· = nm) (· = g.b) (Phi.le_refl _) (freezeM_le h) (Nat.le_refl _) rfl rfl rfl (fun _ _ _ => rfl)
      (fun b hb => ⟨nm, _, 0, rfl, hs, by subst hb; exact hcl, fun _ _ => rfl⟩) (fun b off hd => ?_) (fun b off v h1 h2 => ?_) (fun n' hn' => ⟨setF_ne _ _ hn', rfl⟩) ?_ ?_ ?_ ?_ (fun _ _ => rfl)
    · unfold freezeM at hd
      split at hd
      · rename_i hb; exact .inl hb.1
      · exact absurd rfl hd
    · unfold freezeM at h1
      split at h1
      · rename_i hb; rw [hb.1]; exact h1
      · rw [h1] at h2; cases h2
    · rintro n' y rfl hy
      rw [setF_self] at hy; cases hy
      refine ⟨g, hg, hL, hs', .inl rfl, fun i x j tv hi hj => ?_⟩
      obtain ⟨v, hv, hc⟩ := hr.2 i x j tv hi hj
      have hlt := elt_lt hE hi hj
      refine ⟨v, ?_, hc.freeze h⟩
      unfold freezeM
      rw [if_pos ⟨rfl, by rw [hL, hs']; exact hlt.2.2⟩]; exact hv
    · rintro n' rfl hy
      rw [setF_self] at hy; cases hy
    · rintro n' y b f rfl hy hcl
      rw [setF_self] at hy; cases hy
      exact absurd hcl claim_ro
    · rintro n1 n2 _ _ _ _ _ rfl rfl _ _ _ _; rfl

/-- Cells of a box, or of a row of the call's own, are written. -/
theorem RelW.write (hE : EncOk E) (h : RelW E B o w φ M) {nm : Nat} {x x' : Obj S} {g : GI} (hg : φ nm = some g) (hs : o nm = some x) (hcl : claim φ nm x g.b 0) (hcl' : ∀ b f, claim φ nm x' b f → b = g.b ∧ f = 0) (off : Nat) (vs : List Value)
    (hx : ObjR E φ M (writeCells w g.b off vs) nm x') : RelW E B (setF o nm (some x')) (writeCells w g.b off vs) φ M := by
  obtain ⟨e1, e2, e3⟩ := writeCells_os vs w g.b off
  refine h.step (hdr := Nat.le_of_eq (writeCells_drawn vs w _ _).symm) hE (· = nm) (· = g.b) (Phi.le_refl _) (Mem.le_refl _) (Nat.le_of_eq (writeCells_size vs w g.b off).symm) e1 e2 e3 (fun b _ hb => writeCells_heap vs w g.b off b hb)
    (fun b hb => ⟨nm, x, 0, rfl, hs, by subst hb; exact hcl, fun k hk => absurd hk (by omega)⟩) (fun b off hd => absurd rfl hd) (fun b off v h1 h2 => by rw [h1] at h2; cases h2) (fun n' hn' => ⟨setF_ne _ _ hn', rfl⟩) ?_ ?_ ?_ ?_ (fun _ _ => rfl)
  · rintro n' y rfl hy
    rw [setF_self] at hy; cases hy; exact hx
  · rintro n' rfl hy
    rw [setF_self] at hy; cases hy
  · rintro n' y b f rfl hy hc
    rw [setF_self] at hy; cases hy
    obtain ⟨rfl, rfl⟩ := hcl' b f hc
    refine ⟨by rw [writeCells_size]; exact h.csz _ _ _ _ hs hcl, .inr ⟨_, _, _, rfl, hs, hcl⟩, fun off hf => h.mdis _ _ _ _ off hs hcl (by omega)⟩
  · rintro n1 n2 _ _ _ _ _ rfl rfl _ _ _ _; rfl

/-- Behind a row: new elements in its spare cells; the row so far stays readable, the new name has both. -/
theorem RelW.growApp (hE : EncOk E) (h : RelW E B o w φ M) {nm nm' : Nat} {c : S.K} {xs ys : List (S.El c)} {g : GI} (hg : φ nm = some g) (hs : o nm = some (.row c xs .app)) (hn : o nm' = none) (hB : B.m ≤ nm') (vs : List Value)
    (hlen : vs.length = ys.length * E.sz c) (hfit : (xs.length + ys.length) * E.sz c ≤ g.n) (hv : ∀ i y j tv, ys[i]? = some y → (E.enc c y)[j]? = some tv → ∃ v, vs[i * E.sz c + j]? = some v ∧ CR E M tv v) :
    ∃ M', M.le M' ∧ φ.le (setF φ nm' (some { g with L := xs.length + ys.length })) ∧
      RelW E B (setF (setF o nm (some (.row c xs .ro))) nm' (some (.row c (xs ++ ys) .app))) (writeCells w g.b (xs.length * E.sz c) vs) (setF φ nm' (some { g with L := xs.length + ys.length })) M' := by
  obtain ⟨g', hg', hL, hs', hle, hr⟩ := h.objs nm _ hs
  rw [hg] at hg'; cases hg'
  have hne : nm' ≠ nm := by intro e; subst e; rw [hn] at hs; cases hs
  have hφ : φ.le (setF φ nm' (some { g with L := xs.length + ys.length })) := Phi.le_of <| by
    intro n1 g1 h1
    by_cases e : n1 = nm'
    · subst e; rw [h.fresh n1 hn] at h1; cases h1
    · rw [setF_ne _ _ e]; exact h1
  by_cases hz : g.n = 0
  · -- no block: nothing is written
    have h0 : (xs.length + ys.length) * E.sz c = 0 := by omega
    have hp := hE.pos c
    have h1 : xs.length + ys.length = 0 := by
      rcases Nat.mul_eq_zero.1 h0 with e | e
      · exact e
      · omega
    have hxs : xs = [] := List.length_eq_zero_iff.1 (by omega)
    have hys : ys = [] := List.length_eq_zero_iff.1 (by omega)
    subst hxs; subst hys
    have hvs : vs = [] := List.length_eq_zero_iff.1 (by simpa using hlen)
    subst hvs
    refine ⟨M, Mem.le_refl _, hφ, ?_⟩
    have h1 := h.appRo hE hs
    refine h1.step hE (· = nm') (fun _ => False) hφ (Mem.le_refl _) (Nat.le_refl _) rfl rfl rfl (fun _ _ _ => rfl) (fun b hb => hb.elim) (fun b off hd => absurd rfl hd)
      (fun b off v h1 h2 => by rw [h1] at h2; cases h2) (fun n1 hn1 => ⟨setF_ne _ _ hn1, setF_ne _ _ hn1⟩) ?_ ?_ ?_ ?_ (fun n1 hn1 => setF_ne _ _ (by omega))
    · rintro n1 y rfl hy
      rw [setF_self] at hy; cases hy
      refine ⟨_, setF_self _ _ _, by simp, hs', .inr (by simp), fun j h1 h2 => ?_, fun i x j tv hi => by simp at hi, fun _ _ => hz⟩
      simp only at h2; omega
    · rintro n1 rfl hy
      rw [setF_self] at hy; cases hy
    · rintro n1 y b f rfl hy hcl
      rw [setF_self] at hy; cases hy
      exact absurd hz (claim_gi (setF_self _ _ _) hcl).1
    · rintro n1 n2 _ _ _ _ _ rfl rfl _ _ _ _; rfl
  · have hcl : claim φ nm (.row c xs .app) g.b (g.L * g.s) := claim_app hg hz
    let w' := writeCells w g.b (xs.length * E.sz c) vs
    let M' : Mem := fun b off => if b = g.b ∧ xs.length * E.sz c ≤ off ∧ off < (xs.length + ys.length) * E.sz c then w'.cell? (at_ b off) else M b off
    have hfrom : g.L * g.s = xs.length * E.sz c := by rw [hL, hs']
    have hnone : ∀ off, xs.length * E.sz c ≤ off → M g.b off = none := fun off ho => h.mdis nm _ g.b _ off hs hcl (by omega)
    have hM : M.le M' := by
      intro b off v hb
      show (if _ then _ else _) = _
      split
      · rename_i hc
        obtain ⟨rfl, h1, _⟩ := hc
        rw [hnone off h1] at hb; cases hb
      · exact hb
    have hlive : ∀ j, j < vs.length → ∃ u, w.cell? (at_ g.b (xs.length * E.sz c + j)) = some u := by
      intro j hj
      refine (hr.1 _ (by omega) ?_).1
      rw [hlen] at hj
      have : xs.length * E.sz c + ys.length * E.sz c = (xs.length + ys.length) * E.sz c := (Nat.add_mul ..).symm
      omega
    have hnew : ∀ j v, vs[j]? = some v → w'.cell? (at_ g.b (xs.length * E.sz c + j)) = some v := writeCells_at vs w g.b _ hlive
    obtain ⟨e1, e2, e3⟩ := writeCells_os vs w g.b (xs.length * E.sz c)
    refine ⟨M', hM, hφ, ?_⟩
    refine h.step (hdr := Nat.le_of_eq (writeCells_drawn vs w _ _).symm) hE (fun n1 => n1 = nm ∨ n1 = nm') (· = g.b) hφ hM (Nat.le_of_eq (writeCells_size vs w g.b _).symm) e1 e2 e3 (fun b _ hb => writeCells_heap vs w g.b _ b hb)
      (fun b hb => ⟨nm, _, g.L * g.s, .inl rfl, hs, by subst hb; exact hcl, fun k hk => by subst hb; exact writeCells_below vs w g.b _ k (by omega)⟩) ?_ ?_ ?_ ?_ ?_ ?_ ?_ ?_
    · intro b off hd
      have : ¬ (¬ (b = g.b ∧ xs.length * E.sz c ≤ off ∧ off < (xs.length + ys.length) * E.sz c)) := fun hc => hd (if_neg hc)
      exact .inl (Classical.not_not.1 this).1
    · intro b off v h1 h2
      by_cases hc : b = g.b ∧ xs.length * E.sz c ≤ off ∧ off < (xs.length + ys.length) * E.sz c
      · have : M' b off = w'.cell? (at_ b off) := if_pos hc
        rw [this] at h1; exact h1
      · have : M' b off = M b off := if_neg hc
        rw [this, h2] at h1; cases h1
    · intro n1 hn1
      have a1 : n1 ≠ nm := fun e => hn1 (.inl e)
      have a2 : n1 ≠ nm' := fun e => hn1 (.inr e)
      exact ⟨by rw [setF_ne _ _ a2, setF_ne _ _ a1], setF_ne _ _ a2⟩
    · rintro n1 y hc hy
      rcases hc with rfl | rfl
      · rw [setF_ne _ _ (Ne.symm hne), setF_self] at hy; cases hy
        refine ⟨g, by rw [setF_ne _ _ (Ne.symm hne)]; exact hg, hL, hs', .inl rfl, fun i x j tv hi hj => ?_⟩
        obtain ⟨v, hv, hc⟩ := hr.2.1 i x j tv hi hj
        exact ⟨v, hM _ _ _ hv, hc.mono hM⟩
      · rw [setF_self] at hy; cases hy
        refine ⟨_, setF_self _ _ _, by simp, hs', .inr (by simp only [hs']; omega), fun j h1 h2 => ?_, fun i x j tv hi hj => ?_, fun ht he => hr.2.2 ht (List.append_eq_nil_iff.1 he).1⟩
        · simp only [hs'] at h1 h2
          obtain ⟨⟨u, hu⟩, hf⟩ := hr.1 j (by rw [hfrom]; have : xs.length * E.sz c ≤ (xs.length + ys.length) * E.sz c := Nat.mul_le_mul_right _ (by omega); omega) h2
          refine ⟨⟨u, ?_⟩, ?_⟩
          · show (writeCells _ _ _ _).cell? _ = _
            rw [writeCells_above vs w g.b _ j (by rw [hlen, ← Nat.add_mul]; exact h1)]; exact hu
          · show (writeCells _ _ _ _).frozen? _ = _
            rw [writeCells_frozen]; exact hf
        · simp only [hs']
          have hlt := elt_lt hE hi hj
          by_cases hix : i < xs.length
          · rw [List.getElem?_append_left hix] at hi
            obtain ⟨v, hv, hc⟩ := hr.2.1 i x j tv hi hj
            rw [hs'] at hv
            exact ⟨v, hM _ _ _ hv, hc.mono hM⟩
          · rw [List.getElem?_append_right (by omega)] at hi
            obtain ⟨v, hv', hc⟩ := hv _ x j tv hi hj
            refine ⟨v, ?_, hc.mono hM⟩
            have hpos : i * E.sz c + j = xs.length * E.sz c + ((i - xs.length) * E.sz c + j) := by
              have : i * E.sz c = xs.length * E.sz c + (i - xs.length) * E.sz c := by rw [← Nat.add_mul]; congr 1; omega
              omega
            have hcond : g.b = g.b ∧ xs.length * E.sz c ≤ i * E.sz c + j ∧ i * E.sz c + j < (xs.length + ys.length) * E.sz c := by
              refine ⟨rfl, by omega, ?_⟩
              have := hlt.2.2; rw [List.length_append] at this; exact this
            have : M' g.b (i * E.sz c + j) = w'.cell? (at_ g.b (i * E.sz c + j)) := if_pos hcond
            rw [this, hpos]
            exact hnew _ v hv'
    · rintro n1 hc hy
      rcases hc with rfl | rfl
      · rw [setF_ne _ _ (Ne.symm hne), setF_self] at hy; cases hy
      · rw [setF_self] at hy; cases hy
    · rintro n1 y b f hc hy hcl'
      rcases hc with rfl | rfl
      · rw [setF_ne _ _ (Ne.symm hne), setF_self] at hy; cases hy
        first | exact absurd hcl' claim_ro | exact absurd hcl' claim_gone
      · rw [setF_self] at hy; cases hy
        obtain ⟨_, rfl, rfl⟩ := claim_gi (g := { g with L := xs.length + ys.length }) (setF_self _ _ _) hcl'
        refine ⟨by rw [writeCells_size]; exact h.csz _ _ _ _ hs hcl, .inr ⟨nm, _, _, .inl rfl, hs, hcl⟩, fun off hf => ?_⟩
        simp only [hs'] at hf
        have : M' g.b off = M g.b off := if_neg (by omega)
        rw [this]
        refine hnone off ?_
        have : xs.length * E.sz c ≤ (xs.length + ys.length) * E.sz c := Nat.mul_le_mul_right _ (by omega)
        omega
    · rintro n1 n2 x1 x2 b f f' hc1 hc2 hy1 hy2 hcl1 hcl2
      rcases hc1 with rfl | rfl <;> rcases hc2 with rfl | rfl
      · rfl
      · rw [setF_ne _ _ (Ne.symm hne), setF_self] at hy1; cases hy1; first | exact absurd hcl1 claim_ro | exact absurd hcl1 claim_gone
      · rw [setF_ne _ _ (Ne.symm hne), setF_self] at hy2; cases hy2; first | exact absurd hcl2 claim_ro | exact absurd hcl2 claim_gone
      · rfl
    · intro n1 hn1
      exact setF_ne _ _ (by omega)

/-- A row of the call's own, with new elements behind it. -/
theorem RelW.growOwn (hE : EncOk E) (h : RelW E B o w φ M) {nm nm' : Nat} {c : S.K} {xs ys : List (S.El c)} {g : GI} (hg : φ nm = some g) (hs : o nm = some (.row c xs .own)) (hn : o nm' = none) (hB : B.m ≤ nm') (vs : List Value)
    (hlen : vs.length = ys.length * E.sz c) (hfit : (xs.length + ys.length) * E.sz c ≤ g.n) (hv : ∀ i y j tv, ys[i]? = some y → (E.enc c y)[j]? = some tv → ∃ v, vs[i * E.sz c + j]? = some v ∧ CR E M tv v) :
    φ.le (setF φ nm' (some { g with L := xs.length + ys.length })) ∧
      RelW E B (setF (setF o nm (some .gone)) nm' (some (.row c (xs ++ ys) .own))) (writeCells w g.b (xs.length * E.sz c) vs) (setF φ nm' (some { g with L := xs.length + ys.length })) M := by
  obtain ⟨g', hg', hL, hs', hle, hr⟩ := h.objs nm _ hs
  rw [hg] at hg'; cases hg'
  have hne : nm' ≠ nm := by intro e; subst e; rw [hn] at hs; cases hs
  have hφ : φ.le (setF φ nm' (some { g with L := xs.length + ys.length })) := Phi.le_of <| by
    intro n1 g1 h1
    by_cases e : n1 = nm'
    · subst e; rw [h.fresh n1 hn] at h1; cases h1
    · rw [setF_ne _ _ e]; exact h1
  refine ⟨hφ, ?_⟩
  by_cases hz : g.n = 0
  · have h0 : (xs.length + ys.length) * E.sz c = 0 := by omega
    have hp := hE.pos c
    have h1 : xs.length + ys.length = 0 := by
      rcases Nat.mul_eq_zero.1 h0 with e | e
      · exact e
      · omega
    have hxs : xs = [] := List.length_eq_zero_iff.1 (by omega)
    have hys : ys = [] := List.length_eq_zero_iff.1 (by omega)
    subst hxs; subst hys
    have hvs : vs = [] := List.length_eq_zero_iff.1 (by simpa using hlen)
    subst hvs
    have h1 := h.gone hE (nm := nm) (by rw [hs]; simp)
    refine h1.step hE (· = nm') (fun _ => False) hφ (Mem.le_refl _) (Nat.le_refl _) rfl rfl rfl (fun _ _ _ => rfl) (fun b hb => hb.elim) (fun b off hd => absurd rfl hd)
      (fun b off v h1 h2 => by rw [h1] at h2; cases h2) (fun n1 hn1 => ⟨setF_ne _ _ hn1, setF_ne _ _ hn1⟩) ?_ ?_ ?_ ?_ (fun n1 hn1 => setF_ne _ _ (by omega))
    · rintro n1 y rfl hy
      rw [setF_self] at hy; cases hy
      refine ⟨_, setF_self _ _ _, by simp, hs', .inr (by simp), fun j h2 => ?_, fun i x j tv hi => by simp at hi⟩
      simp only at h2; omega
    · rintro n1 rfl hy
      rw [setF_self] at hy; cases hy
    · rintro n1 y b f rfl hy hcl
      rw [setF_self] at hy; cases hy
      exact absurd hz (claim_gi (setF_self _ _ _) hcl).1
    · rintro n1 n2 _ _ _ _ _ rfl rfl _ _ _ _; rfl
  · have hcl : claim φ nm (.row c xs .own) g.b 0 := claim_own hg hz
    have hlive : ∀ j, j < vs.length → ∃ u, w.cell? (at_ g.b (xs.length * E.sz c + j)) = some u := by
      intro j hj
      refine (hr.1 _ ?_).1
      rw [hlen] at hj
      have : xs.length * E.sz c + ys.length * E.sz c = (xs.length + ys.length) * E.sz c := (Nat.add_mul ..).symm
      omega
    have hnew := writeCells_at vs w g.b _ hlive
    obtain ⟨e1, e2, e3⟩ := writeCells_os vs w g.b (xs.length * E.sz c)
    refine h.step (hdr := Nat.le_of_eq (writeCells_drawn vs w _ _).symm) hE (fun n1 => n1 = nm ∨ n1 = nm') (· = g.b) hφ (Mem.le_refl _) (Nat.le_of_eq (writeCells_size vs w g.b _).symm) e1 e2 e3 (fun b _ hb => writeCells_heap vs w g.b _ b hb)
      (fun b hb => ⟨nm, _, 0, .inl rfl, hs, by subst hb; exact hcl, fun k hk => absurd hk (by omega)⟩) (fun b off hd => absurd rfl hd) (fun b off v h1 h2 => by rw [h1] at h2; cases h2) ?_ ?_ ?_ ?_ ?_ ?_
    · intro n1 hn1
      have a1 : n1 ≠ nm := fun e => hn1 (.inl e)
      have a2 : n1 ≠ nm' := fun e => hn1 (.inr e)
      exact ⟨by rw [setF_ne _ _ a2, setF_ne _ _ a1], setF_ne _ _ a2⟩
    · rintro n1 y hc hy
      rcases hc with rfl | rfl
      · rw [setF_ne _ _ (Ne.symm hne), setF_self] at hy; cases hy
        trivial
      · rw [setF_self] at hy; cases hy
        refine ⟨_, setF_self _ _ _, by simp, hs', .inr (by simp only [hs']; omega), fun j h2 => ?_, fun i x j tv hi hj => ?_⟩
        · simp only at h2
          obtain ⟨⟨u, hu⟩, hf⟩ := hr.1 j h2
          refine ⟨?_, by rw [writeCells_frozen]; exact hf⟩
          by_cases hin : xs.length * E.sz c ≤ j ∧ j < xs.length * E.sz c + vs.length
          · obtain ⟨v, hv⟩ : ∃ v, vs[j - xs.length * E.sz c]? = some v := ⟨_, List.getElem?_eq_getElem (by omega)⟩
            refine ⟨v, ?_⟩
            have := hnew _ v hv
            rw [show xs.length * E.sz c + (j - xs.length * E.sz c) = j by omega] at this; exact this
          · by_cases hlo : j < xs.length * E.sz c
            · exact ⟨u, by rw [writeCells_below vs w g.b _ j hlo]; exact hu⟩
            · exact ⟨u, by rw [writeCells_above vs w g.b _ j (by omega)]; exact hu⟩
        · simp only [hs']
          have hlt := elt_lt hE hi hj
          by_cases hix : i < xs.length
          · rw [List.getElem?_append_left hix] at hi
            obtain ⟨v, hv, hc⟩ := hr.2 i x j tv hi hj
            rw [hs'] at hv
            refine ⟨v, ?_, hc⟩
            have := elt_lt hE hi hj
            rw [writeCells_below vs w g.b _ _ (by omega)]; exact hv
          · rw [List.getElem?_append_right (by omega)] at hi
            obtain ⟨v, hv', hc⟩ := hv _ x j tv hi hj
            refine ⟨v, ?_, hc⟩
            have hpos : i * E.sz c + j = xs.length * E.sz c + ((i - xs.length) * E.sz c + j) := by
              have : i * E.sz c = xs.length * E.sz c + (i - xs.length) * E.sz c := by rw [← Nat.add_mul]; congr 1; omega
              omega
            rw [hpos]
            exact hnew _ v hv'
    · rintro n1 hc hy
      rcases hc with rfl | rfl
      · rw [setF_ne _ _ (Ne.symm hne), setF_self] at hy; cases hy
      · rw [setF_self] at hy; cases hy
    · rintro n1 y b f hc hy hcl'
      rcases hc with rfl | rfl
      · rw [setF_ne _ _ (Ne.symm hne), setF_self] at hy; cases hy
        first | exact absurd hcl' claim_ro | exact absurd hcl' claim_gone
      · rw [setF_self] at hy; cases hy
        obtain ⟨_, rfl, rfl⟩ := claim_gi (g := { g with L := xs.length + ys.length }) (setF_self _ _ _) hcl'
        exact ⟨by rw [writeCells_size]; exact h.csz _ _ _ _ hs hcl, .inr ⟨nm, _, _, .inl rfl, hs, hcl⟩, fun off hf => h.mdis _ _ _ _ off hs hcl (by omega)⟩
    · rintro n1 n2 x1 x2 b f f' hc1 hc2 hy1 hy2 hcl1 hcl2
      rcases hc1 with rfl | rfl <;> rcases hc2 with rfl | rfl
      · rfl
      · rw [setF_ne _ _ (Ne.symm hne), setF_self] at hy1; cases hy1; first | exact absurd hcl1 claim_ro | exact absurd hcl1 claim_gone
      · rw [setF_ne _ _ (Ne.symm hne), setF_self] at hy2; cases hy2; first | exact absurd hcl2 claim_ro | exact absurd hcl2 claim_gone
      · rfl
    · intro n1 hn1
      exact setF_ne _ _ (by omega)
end TE
