/- TE: code and functions. -/
import Derived.Test.YtkhkbikglgpkoaaGreatTE17
namespace TE
open Go
variable {S : Sig} {E : Env S}

theorem Rel.weaken {B : Base} {nt : Nat} {c t : Nat → TV S} {ob : Nat → Option (Obj S)} {a : Act} {w : World} {φ : Phi} {M : Mem} (h : Rel E B nt c ob a w φ M) (ht : ∀ x, t x = c x ∨ t x = .dead) : Rel E B nt t ob a w φ M := by
  refine ⟨fun i => ?_, h.nt, h.defers, h.mem⟩
  rcases ht i with e | e
  · rw [e]; exact h.slots i
  · rw [e]; exact .dead _

/-- An evaluator's state and the model's frame and world. -/
def Inv (E : Env S) (B : Base) (nt : Nat) (st : St S) (a : Act) (w : World) : Prop :=
  ∃ φ M, Rel E B nt st.t st.o a w φ M ∧ B.m ≤ st.next ∧ ∀ n, st.next ≤ n → st.o n = none

theorem region_det (hE : EnvOk E) (hf : CallfOK E) {H : Hint S} {nt : Nat} {ops : Array Oper} {draw : Bool} {R : Type} {st : St S} {k : St S → Option R} {r : R} (h : regionEval E H nt ops draw st k = some r) :
    ∃ st', k st' = some r ∧ ∀ (id : Nat) (B : Base) (Q : Exit → Act → World → Prop) (a : Act) (w : World), Inv E B nt st a w → (∀ a' w', Inv E B nt st' a' w' → Q .normal a' w') → (Code.region id ops draw).wp E.P Q a w := by
  unfold regionEval at h
  split at h
  · rename_i hd
    subst hd
    split at h
    · rename_i hchk
      simp only [Bool.and_eq_true] at hchk
      obtain ⟨hedge, _, hpair⟩ := hchk
      obtain ⟨es, c', st', nf, htr, hk, hst, hft⟩ := runC_trace hE hf _ _ _ _ _ _ _ _ st.t h (fun _ => .inl rfl)
      split at hk
      · rename_i hp0
        simp only [List.append_nil, List.reverse_reverse, Bool.or_eq_true] at hp0
        have hp2 : pairsOk Foot.apart (befores ops.toList []) nf = true := by
          rcases hp0 with hq | hq
          · refine pairs_all fun x hx y hy => ?_
            rw [List.all_eq_true] at hq
            have h1 := hq x (by simpa using hx)
            have h2 := hq y (by simpa using hy)
            unfold Foot.apart
            rw [h1, h2]; rfl
          · exact hq
        refine ⟨st', hk, fun id B Q a w hi hQ => ?_⟩
        obtain ⟨φ, M, hrel, hB, h0⟩ := hi
        refine wp_region_any hE.mixed ?_
        have nosel : ∀ (l : List (Oper × Eff S)) (c : Nat → TV S) (k : Nat), selPut c l k (fun _ => false) = c := by
          intro l
          induction l with
          | nil => intro c k; rfl
          | cons p r ih => intro c k; exact ih c (k + 1)
        have noselO : ∀ (l : List (Oper × Eff S)) (c : Nat → Option (Obj S)) (k : Nat), selObj c l k (fun _ => false) = c := by
          intro l
          induction l with
          | nil => intro c k; rfl
          | cons p r ih => intro c k; exact ih c (k + 1)
        have hfalse : (fun i => (Array.replicate ops.size false).getD i false) = fun _ => false := by
          funext i
          rw [Array.getD_eq_getD_getElem?, Array.getElem?_replicate]
          split <;> rfl
        refine drawn_sound hE (Q := Q) htr hft hedge hpair hp2 hB h0 (fun a' w' φ' M' hr' hb' hf' => hQ a' w' ⟨φ', M', hr'.weaken hst, Nat.le_trans hB hb', hf'⟩) ops.size _ a _ φ M (by simp) (fun i o _ hl => ?_) ?_ ?_
        · have := congrFun hfalse i
          rw [this] at hl; cases hl
        · unfold unlisted
          refine Nat.le_trans (List.length_filter_le _ _) (by simp)
        · rw [hfalse, nosel, noselO]
          exact ⟨hrel.slots, hrel.nt, hrel.defers, hrel.mem.drew⟩
      · cases hk
    · cases h
  · rename_i hd
    have hd : draw = false := by simpa using hd
    subst hd
    obtain ⟨es, c', st', nf, htr, hk, hst, hft⟩ := runC_trace hE hf _ _ _ _ _ _ _ _ st.t h (fun _ => .inl rfl)
    refine ⟨st', hk, fun id B Q a w hi hQ => ?_⟩
    obtain ⟨φ, M, hrel, hB, h0⟩ := hi
    refine wp_region ?_
    have := seq_sound (Q := Q) htr 0 a w φ M (fun i => by simp) hB h0 hrel (fun a' w' φ' M' hr' hb' hf' => hQ a' w' ⟨φ', M', hr'.weaken hst, Nat.le_trans hB hb', hf'⟩)
    rw [List.range_eq_range']
    simpa using this

/-! ### heads of loops -/
theorem RelW.rebox (hE : EncOk E) {B : Base} {o : Nat → Option (Obj S)} {w : World} {φ : Phi} {M : Mem} (h : RelW E B o w φ M) {nm : Nat} {cs cs' : List (TV S)} (hs : o nm = some (.box cs)) (hx : ObjR E φ M w nm (.box cs')) : RelW E B (setF o nm (some (.box cs'))) w φ M := by
  have hcl : ∀ b f, claim φ nm (Obj.box cs' : Obj S) b f → claim φ nm (Obj.box cs : Obj S) b f := fun b f h => h
  refine h.step hE (· = nm) (fun _ => False) (Phi.le_refl _) (Mem.le_refl _) (Nat.le_refl _) rfl rfl rfl (fun _ _ _ => rfl) (fun b hb => hb.elim) (fun b off hd => absurd rfl hd)
    (fun b off v h1 h2 => by rw [h1] at h2; cases h2) (fun n' hn' => ⟨setF_ne _ _ hn', rfl⟩) ?_ ?_ ?_ ?_ (fun _ _ => rfl)
  · rintro n' y rfl hy
    rw [setF_self] at hy; cases hy; exact hx
  · rintro n' rfl hy
    rw [setF_self] at hy; cases hy
  · rintro n' y b f rfl hy hc
    rw [setF_self] at hy; cases hy
    exact ⟨h.csz n' _ b f hs hc, .inr ⟨n', _, f, rfl, hs, hc⟩, fun off ho => h.mdis n' _ b f off hs hc ho⟩
  · rintro n1 n2 _ _ _ _ _ rfl rfl _ _ _ _; rfl

theorem RelW.newEmpty (hE : EncOk E) {B : Base} {o : Nat → Option (Obj S)} {w : World} {φ : Phi} {M : Mem} (h : RelW E B o w φ M) {nm : Nat} (hn : o nm = none) (hB : B.m ≤ nm) (c : S.K) (m : RM) :
    RelW E B (setF o nm (some (.row c [] m))) w (setF φ nm (some ⟨0, E.sz c, 0, 0, fun _ => false⟩)) M ∧ φ.le (setF φ nm (some ⟨0, E.sz c, 0, 0, fun _ => false⟩)) := by
  have hle : φ.le (setF φ nm (some ⟨0, E.sz c, 0, 0, fun _ => false⟩)) := Phi.le_of <| by
    intro n g hg
    by_cases e : n = nm
    · subst e; rw [h.fresh n hn] at hg; cases hg
    · rw [setF_ne _ _ e]; exact hg
  have hself : setF φ nm (some ⟨0, E.sz c, 0, 0, fun _ => false⟩) nm = some ⟨0, E.sz c, 0, 0, fun _ => false⟩ := setF_self _ _ _
  have hcl : ∀ b f, claim (setF φ nm (some ⟨0, E.sz c, 0, 0, fun _ => false⟩)) nm (Obj.row c [] m : Obj S) b f → False := fun b f q => by
    have q := claim_gi hself q
    cases m with
    | own => exact q.1 rfl
    | app => exact q.1 rfl
    | ro => exact q
  refine ⟨h.step hE (· = nm) (fun _ => False) hle (Mem.le_refl _) (Nat.le_refl _) rfl rfl rfl (fun _ _ _ => rfl) (fun b hb => hb.elim) (fun b off hd => absurd rfl hd)
    (fun b off v h1 h2 => by rw [h1] at h2; cases h2) (fun n' hn' => ⟨setF_ne _ _ hn', setF_ne _ _ hn'⟩) ?_ ?_ ?_ ?_ (fun n' hn' => setF_ne _ _ (by omega)), hle⟩
  · rintro n' y rfl hy
    rw [setF_self] at hy; cases hy
    refine ⟨_, hself, rfl, rfl, .inr (by simp), ?_⟩
    cases m with
    | own => exact ⟨fun j hj => absurd hj (Nat.not_lt_zero j), fun i x j tv hx => by simp at hx⟩
    | app => exact ⟨fun j _ hj => absurd hj (Nat.not_lt_zero j), fun i x j tv hx => by simp at hx, fun _ _ => rfl⟩
    | ro => exact fun i x j tv hx => by simp at hx
  · rintro n' rfl hy
    rw [setF_self] at hy; cases hy
  · rintro n' y b f rfl hy hc
    rw [setF_self] at hy; cases hy
    exact (hcl b f hc).elim
  · rintro n1 n2 _ _ _ _ _ rfl rfl _ _ _ _; rfl

theorem RelW.shrinkOwn (hE : EncOk E) {B : Base} {o : Nat → Option (Obj S)} {w : World} {φ : Phi} {M : Mem} (h : RelW E B o w φ M) {nm nm' : Nat} {c : S.K} {xs : List (S.El c)} {g : GI} (hg : φ nm = some g) (hs : o nm = some (.row c xs .own)) (hn : o nm' = none) (hB : B.m ≤ nm') (len : Nat) (hl : len ≤ xs.length) :
    φ.le (setF φ nm' (some { g with L := len })) ∧ RelW E B (setF (setF o nm (some .gone)) nm' (some (.row c (xs.take len) .own))) w (setF φ nm' (some { g with L := len })) M := by
  obtain ⟨g', hg', hL, hs', hle, hr⟩ := h.objs nm _ hs
  rw [hg] at hg'; cases hg'
  have hne : nm' ≠ nm := by intro e; subst e; rw [hn] at hs; cases hs
  have hφ : φ.le (setF φ nm' (some { g with L := len })) := Phi.le_of <| by
    intro n1 g1 h1
    by_cases e : n1 = nm'
    · subst e; rw [h.fresh n1 hn] at h1; cases h1
    · rw [setF_ne _ _ e]; exact h1
  have hfit : len * g.s ≤ g.n := Nat.le_trans (Nat.mul_le_mul_right _ (by omega)) (hle.resolve_left (by simp))
  have hlen : (xs.take len).length = len := by rw [List.length_take]; omega
  refine ⟨hφ, ?_⟩
  by_cases hz : g.n = 0
  · have h1 := h.gone hE (nm := nm) (by rw [hs]; simp)
    refine h1.step hE (· = nm') (fun _ => False) hφ (Mem.le_refl _) (Nat.le_refl _) rfl rfl rfl (fun _ _ _ => rfl) (fun b hb => hb.elim) (fun b off hd => absurd rfl hd)
      (fun b off v h1 h2 => by rw [h1] at h2; cases h2) (fun n1 hn1 => ⟨setF_ne _ _ hn1, setF_ne _ _ hn1⟩) ?_ ?_ ?_ ?_ (fun n1 hn1 => setF_ne _ _ (by omega))
    · rintro n1 y rfl hy
      rw [setF_self] at hy; cases hy
      refine ⟨_, setF_self _ _ _, hlen.symm, hs', .inr hfit, fun j h2 => ?_, fun i x j tv hi hj => ?_⟩
      · simp only at h2; omega
      · exact hr.2 i x j tv (by rw [List.getElem?_take] at hi; split at hi; exact hi; cases hi) hj
    · rintro n1 rfl hy
      rw [setF_self] at hy; cases hy
    · rintro n1 y b f rfl hy hcl
      rw [setF_self] at hy; cases hy
      exact absurd hz (claim_gi (setF_self _ _ _) hcl).1
    · rintro n1 n2 _ _ _ _ _ rfl rfl _ _ _ _; rfl
  · have hcl : claim φ nm (.row c xs .own) g.b 0 := claim_own hg hz
    refine h.step hE (fun n1 => n1 = nm ∨ n1 = nm') (fun _ => False) hφ (Mem.le_refl _) (Nat.le_refl _) rfl rfl rfl (fun _ _ _ => rfl) (fun b hb => hb.elim) (fun b off hd => absurd rfl hd)
      (fun b off v h1 h2 => by rw [h1] at h2; cases h2) ?_ ?_ ?_ ?_ ?_ ?_
    · intro n1 hn1
      have a1 : n1 ≠ nm := fun e => hn1 (.inl e)
      have a2 : n1 ≠ nm' := fun e => hn1 (.inr e)
      exact ⟨by rw [setF_ne _ _ a2, setF_ne _ _ a1], setF_ne _ _ a2⟩
    · rintro n1 y hc hy
      rcases hc with rfl | rfl
      · rw [setF_ne _ _ (Ne.symm hne), setF_self] at hy; cases hy
        trivial
      · rw [setF_self] at hy; cases hy
        refine ⟨_, setF_self _ _ _, hlen.symm, hs', .inr hfit, fun j h2 => hr.1 j h2, fun i x j tv hi hj => ?_⟩
        exact hr.2 i x j tv (by rw [List.getElem?_take] at hi; split at hi; exact hi; cases hi) hj
    · rintro n1 hc hy
      rcases hc with rfl | rfl
      · rw [setF_ne _ _ (Ne.symm hne), setF_self] at hy; cases hy
      · rw [setF_self] at hy; cases hy
    · rintro n1 y b f hc hy hcl'
      rcases hc with rfl | rfl
      · rw [setF_ne _ _ (Ne.symm hne), setF_self] at hy; cases hy
        exact absurd hcl' claim_gone
      · rw [setF_self] at hy; cases hy
        obtain ⟨_, rfl, rfl⟩ := claim_gi (g := { g with L := len }) (setF_self _ _ _) hcl'
        exact ⟨h.csz _ _ _ _ hs hcl, .inr ⟨nm, _, _, .inl rfl, hs, hcl⟩, fun off hf => h.mdis _ _ _ _ off hs hcl (by omega)⟩
    · rintro n1 n2 x1 x2 b f f' hc1 hc2 hy1 hy2 hcl1 hcl2
      rcases hc1 with rfl | rfl <;> rcases hc2 with rfl | rfl
      · rfl
      · rw [setF_ne _ _ (Ne.symm hne), setF_self] at hy1; cases hy1; exact absurd hcl1 claim_gone
      · rw [setF_ne _ _ (Ne.symm hne), setF_self] at hy2; cases hy2; exact absurd hcl2 claim_gone
      · rfl
    · intro n1 hn1
      exact setF_ne _ _ (by omega)

theorem RelW.moveMap (hE : EncOk E) {B : Base} {o : Nat → Option (Obj S)} {w : World} {φ : Phi} {M : Mem} (h : RelW E B o w φ M) {nm nm' : Nat} {ag : Bool} {sh : List ScK} {vag : Bool} {vc : S.K} {L : List (List Sc × S.El vc × Nat)} {ex : Bool} {cl : Nat} (hs : o nm = some (.mapo ag sh vag vc L ex cl)) (hn : o nm' = none) (hB : B.m ≤ nm') :
    ∃ g, φ nm = some g ∧ φ.le (setF φ nm' (some g)) ∧ RelW E B (setF (setF o nm (some .gone)) nm' (some (.mapo ag sh vag vc L ex cl))) w (setF φ nm' (some g)) M := by
  have hobj := h.objs nm _ hs
  obtain ⟨g, hg, _⟩ := id hobj
  have hne : nm' ≠ nm := by intro e; subst e; rw [hn] at hs; cases hs
  have hφ : φ.le (setF φ nm' (some g)) := Phi.le_of <| by
    intro n1 g1 h1
    by_cases e : n1 = nm'
    · subst e; rw [h.fresh n1 hn] at h1; cases h1
    · rw [setF_ne _ _ e]; exact h1
  have hp : setF φ nm' (some g) nm' = φ nm := by rw [setF_self, hg]
  refine ⟨g, hg, hφ, h.step hE (fun n1 => n1 = nm ∨ n1 = nm') (fun _ => False) hφ (Mem.le_refl _) (Nat.le_refl _) rfl rfl rfl (fun _ _ _ => rfl) (fun b hb => hb.elim) (fun b off hd => absurd rfl hd)
    (fun b off v h1 h2 => by rw [h1] at h2; cases h2) ?_ ?_ ?_ ?_ ?_ ?_⟩
  · intro n1 hn1
    have a1 : n1 ≠ nm := fun e => hn1 (.inl e)
    have a2 : n1 ≠ nm' := fun e => hn1 (.inr e)
    exact ⟨by rw [setF_ne _ _ a2, setF_ne _ _ a1], setF_ne _ _ a2⟩
  · rintro n1 y hc hy
    rcases hc with rfl | rfl
    · rw [setF_ne _ _ (Ne.symm hne), setF_self] at hy; cases hy
      trivial
    · rw [setF_self] at hy; cases hy
      exact hobj.ren (ρ := id) (fun g' hg' => by rw [hp]; exact hg') (fun m hm _ _ => absurd hm (by simp [namesObj]))
  · rintro n1 hc hy
    rcases hc with rfl | rfl
    · rw [setF_ne _ _ (Ne.symm hne), setF_self] at hy; cases hy
    · rw [setF_self] at hy; cases hy
  · rintro n1 y b f hc hy hcl'
    rcases hc with rfl | rfl
    · rw [setF_ne _ _ (Ne.symm hne), setF_self] at hy; cases hy
      exact absurd hcl' claim_gone
    · rw [setF_self] at hy; cases hy
      have hcl : claim φ nm (Obj.mapo ag sh vag vc L ex cl) b f := by
        have e := congrFun (congrFun (claim_ren (ρ := id) hp (Obj.mapo ag sh vag vc L ex cl)) b) f
        exact e.mp hcl'
      exact ⟨h.csz _ _ _ _ hs hcl, .inr ⟨nm, _, _, .inl rfl, hs, hcl⟩, fun off hf => h.mdis _ _ _ _ off hs hcl (by omega)⟩
  · rintro n1 n2 x1 x2 b f f' hc1 hc2 hy1 hy2 hcl1 hcl2
    rcases hc1 with rfl | rfl <;> rcases hc2 with rfl | rfl
    · rfl
    · rw [setF_ne _ _ (Ne.symm hne), setF_self] at hy1; cases hy1; exact absurd hcl1 claim_gone
    · rw [setF_ne _ _ (Ne.symm hne), setF_self] at hy2; cases hy2; exact absurd hcl2 claim_gone
    · rfl
  · intro n1 hn1
    exact setF_ne _ _ (by omega)

theorem fixVal_sound (hV : EnvOk E) {B : Base} {k : LK S} {o : Nat → Option (Obj S)} {w : World} {φ : Phi} {M : Mem} {next nx : Nat} {v v' : TV S} {wr : List (Nat × Obj S)} {u : Value} (h : RelW E B o w φ M) (hB : B.m ≤ next) (h0 : ∀ n, next ≤ n → o n = none)
    (hv : VR E φ M v u) (hx : fixVal k o next v = some (v', wr, nx)) :
    ∃ φ' M', φ.le φ' ∧ M.le M' ∧ RelW E B (setAll o wr) w φ' M' ∧ VR E φ' M' v' u ∧ next ≤ nx ∧ (∀ n, nx ≤ n → setAll o wr n = none) ∧ ∀ nm cs, o nm = some (.box cs) → setAll o wr nm = some (.box cs) := by
  have hE : EncOk E := hV.toEncOk
  have same : ∃ φ' M', φ.le φ' ∧ M.le M' ∧ RelW E B (setAll o []) w φ' M' ∧ VR E φ' M' v u ∧ next ≤ next ∧ (∀ n, next ≤ n → setAll o [] n = none) ∧ ∀ nm cs, o nm = some (.box cs) → setAll o [] nm = some (.box cs) :=
    ⟨φ, M, Phi.le_refl _, Mem.le_refl _, h, hv, Nat.le_refl _, h0, fun _ _ e => e⟩
  have pure : ∀ {y : TV S}, pureOf o v = some y → (∀ nm ∈ rowName v, ∀ c xs m, o nm = some (.row c xs m) → m ≠ .own) →
      ∃ φ' M', φ.le φ' ∧ M.le M' ∧ RelW E B (setAll o []) w φ' M' ∧ VR E φ' M' y u ∧ next ≤ next ∧ (∀ n, next ≤ n → setAll o [] n = none) ∧ ∀ nm cs, o nm = some (.box cs) → setAll o [] nm = some (.box cs) := fun hy hm =>
    ⟨φ, M, Phi.le_refl _, Mem.le_refl _, h, .pure (pureOf_CR h hy (fun nm hnm c xs m ho => ⟨m, hm nm hnm c xs m ho, id, ho⟩) hE hv), Nat.le_refl _, h0, fun _ _ e => e⟩
  have freeze : ∀ {y : TV S} {nm : Nat} {c : S.K} {xs : List (S.El c)}, o nm = some (.row c xs .own) → rowName v = [nm] → pureOf (setF o nm (some (.row c xs .ro))) v = some y →
      ∃ φ' M', φ.le φ' ∧ M.le M' ∧ RelW E B (setAll o [(nm, .row c xs .ro)]) w φ' M' ∧ VR E φ' M' y u ∧ next ≤ next ∧ (∀ n, next ≤ n → setAll o [(nm, .row c xs .ro)] n = none) ∧ ∀ nm' cs, o nm' = some (.box cs) → setAll o [(nm, .row c xs .ro)] nm' = some (.box cs) := by
    intro y nm c xs ho hn hy
    obtain ⟨M', hM, hW⟩ := h.freeze hE ho
    have hne : ∀ n, o n ≠ some (.row c xs .own) → n ≠ nm := fun n hn e => hn (e ▸ ho)
    refine ⟨φ, M', Phi.le_refl _, hM, hW, .pure (pureOf_CR hW hy (fun nm' hnm c' xs' m ho' => ⟨m, ?_, id, ho'⟩) hE (hv.mono (Phi.le_refl _) hM)), Nat.le_refl _, fun n hn' => ?_, fun nm' cs hc => ?_⟩
    · rw [hn] at hnm
      have : nm' = nm := by simpa using hnm
      subst this
      rw [setF_self] at ho'
      intro hm
      subst hm
      injection ho' with ho'
      injection ho' with _ _ h3
      cases h3
    · rw [setAll_one, setF_ne _ _ (hne n (by rw [h0 n hn']; simp))]; exact h0 n hn'
    · rw [setAll_one, setF_ne _ _ (hne nm' (by rw [hc]; simp))]; exact hc
  unfold fixVal at hx
  split at hx
  · rename_i c m
    cases hx
    obtain ⟨h1, h2⟩ := h.newEmpty hE (h0 next (Nat.le_refl _)) hB c m
    refine ⟨_, M, h2, Mem.le_refl _, h1, ?_, by omega, fun n hn => ?_, fun nm cs hc => ?_⟩
    · rw [hv.nils]
      exact .slw (setF_self _ _ _) ⟨none, 0, rfl, Nat.le_refl _, by simp, .inl rfl⟩
    · rw [setAll_one, setF_ne _ _ (by omega)]; exact h0 n (by omega)
    · rw [setAll_one, setF_ne _ _ (by intro e; subst e; rw [h0 _ (Nat.le_refl _)] at hc; cases hc)]; exact hc
  · cases hx; exact same
  · rename_i c m
    cases hx
    obtain ⟨h1, h2⟩ := h.newEmpty hE (h0 next (Nat.le_refl _)) hB c m
    refine ⟨_, M, h2, Mem.le_refl _, h1, ?_, by omega, fun n hn => ?_, fun nm cs hc => ?_⟩
    · rw [hv.nils]
      exact .slw (setF_self _ _ _) ⟨none, 0, rfl, Nat.le_refl _, by simp, .inl rfl⟩
    · rw [setAll_one, setF_ne _ _ (by omega)]; exact h0 n (by omega)
    · rw [setAll_one, setF_ne _ _ (by intro e; subst e; rw [h0 _ (Nat.le_refl _)] at hc; cases hc)]; exact hc
  · rename_i nm
    have hnone := h0 next (Nat.le_refl _)
    have two : ∀ (x y : Obj S), (∃ c xs m, o nm = some (.row c xs m)) → (∀ n, next + 1 ≤ n → setAll o [(nm, x), (next, y)] n = none) ∧ ∀ nm' cs, o nm' = some (.box cs) → setAll o [(nm, x), (next, y)] nm' = some (.box cs) := by
      rintro x y ⟨c, xs, m, ho⟩
      have e : setAll o [(nm, x), (next, y)] = setF (setF o nm (some x)) next (some y) := rfl
      rw [e]
      refine ⟨fun n hn => ?_, fun nm' cs hc => ?_⟩
      · rw [setF_ne _ _ (by omega), setF_ne _ _ (by intro e; subst e; rw [h0 _ (by omega)] at ho; cases ho)]; exact h0 n (by omega)
      · rw [setF_ne _ _ (by intro e; subst e; rw [hnone] at hc; cases hc), setF_ne _ _ (by intro e; subst e; rw [ho] at hc; cases hc)]; exact hc
    split at hx
    · rename_i c xs ho
      cases hx
      obtain ⟨g, hg, ad, cap, rfl, h3, h31, h4⟩ := hv.slw_inv
      obtain ⟨g', hg', hL, hs', hle, hr⟩ := h.objs nm _ ho
      rw [hg] at hg'; cases hg'
      obtain ⟨M', hM', hφ, hW⟩ := h.growApp hE (ys := []) hg ho hnone hB [] (by simp) (by rw [← hL, ← hs']; simpa using hle) (fun i y j tv hy => by simp at hy)
      rw [List.append_nil] at hW
      refine ⟨_, M', hφ, hM', hW, ?_, by omega, (two _ _ ⟨c, xs, .app, ho⟩).1, (two _ _ ⟨c, xs, .app, ho⟩).2⟩
      refine .slw (setF_self _ _ _) ?_
      refine ⟨ad, cap, ?_, ?_, ?_, ?_⟩
      · rw [hL]; rfl
      · simpa [hL] using h3
      · simp
      · exact h4
    · rename_i c xs ho
      cases hx
      obtain ⟨g, hg, ad, cap, rfl, h3, h31, h4⟩ := hv.slw_inv
      obtain ⟨g', hg', hL, hs', hle, hr⟩ := h.objs nm _ ho
      rw [hg] at hg'; cases hg'
      obtain ⟨hφ, hW⟩ := h.growOwn hE (ys := []) hg ho hnone hB [] (by simp) (by rw [← hL, ← hs']; simpa using hle) (fun i y j tv hy => by simp at hy)
      rw [List.append_nil] at hW
      refine ⟨_, M, hφ, Mem.le_refl _, hW, ?_, by omega, (two _ _ ⟨c, xs, .own, ho⟩).1, (two _ _ ⟨c, xs, .own, ho⟩).2⟩
      refine .slw (setF_self _ _ _) ?_
      refine ⟨ad, cap, ?_, ?_, ?_, ?_⟩
      · rw [hL]; rfl
      · simpa [hL] using h3
      · simp
      · exact h4
    · cases hx
  · rename_i nm len
    have hnone := h0 next (Nat.le_refl _)
    split at hx
    rotate_left
    · cases hx
    rename_i c xs ho
    cases hx
    obtain ⟨g, hg, ad, cap, rfl, h3, h31, h4⟩ := hv.sl_inv
    obtain ⟨g', hg', hL, _⟩ := h.objs nm _ ho
    rw [hg] at hg'; cases hg'
    obtain ⟨hφ, hW⟩ := h.shrinkOwn hE hg ho hnone hB len (by omega)
    have e : ∀ x y : Obj S, setAll o [(nm, x), (next, y)] = setF (setF o nm (some x)) next (some y) := fun _ _ => rfl
    refine ⟨_, M, hφ, Mem.le_refl _, hW, ?_, by omega, fun n hn => ?_, fun nm' cs hc => ?_⟩
    · refine .slw (setF_self _ _ _) ⟨ad, cap, rfl, h3, by simp, ?_⟩
      rcases h4 with h4 | h4
      · exact .inl h4
      · exact .inr (by simpa using h4)
    · rw [e, setF_ne _ _ (by omega), setF_ne _ _ (by intro e; subst e; rw [h0 _ (by omega)] at ho; cases ho)]; exact h0 n (by omega)
    · rw [e, setF_ne _ _ (by intro e; subst e; rw [hnone] at hc; cases hc), setF_ne _ _ (by intro e; subst e; rw [ho] at hc; cases hc)]; exact hc
  · rename_i nm
    have hnone := h0 next (Nat.le_refl _)
    split at hx
    rotate_left
    · cases hx
    rename_i ag sh vag vc L ex cl ho
    cases hx
    obtain ⟨g, hg, hφ, hW⟩ := h.moveMap hE ho hnone hB
    have e : ∀ x y : Obj S, setAll o [(nm, x), (next, y)] = setF (setF o nm (some x)) next (some y) := fun _ _ => rfl
    refine ⟨_, M, hφ, Mem.le_refl _, hW, ?_, by omega, fun n hn => ?_, fun nm' cs hc => ?_⟩
    · refine hv.ren (ρ := fun _ => next) fun n hn g' hg' => ?_
      have : n = nm := by simpa [namesOf] using hn
      subst this
      rw [hg] at hg'; cases hg'
      exact setF_self _ _ _
    · rw [e, setF_ne _ _ (by omega), setF_ne _ _ (by intro e; subst e; rw [h0 _ (by omega)] at ho; cases ho)]; exact h0 n (by omega)
    · rw [e, setF_ne _ _ (by intro e; subst e; rw [hnone] at hc; cases hc), setF_ne _ _ (by intro e; subst e; rw [ho] at hc; cases hc)]; exact hc
  · cases hx
  · rename_i c
    cases hx
    obtain ⟨h1, h2⟩ := h.newDeep hE (h0 next (Nat.le_refl _)) hB c
    refine ⟨_, M, h2, Mem.le_refl _, h1, ?_, by omega, fun n hn => ?_, fun nm cs hc => ?_⟩
    · rw [hv.nils]
      exact .slw (setF_self _ _ _) ⟨none, 0, rfl, Nat.le_refl _, by simp, .inl rfl⟩
    · rw [setAll_one, setF_ne _ _ (by omega)]; exact h0 n (by omega)
    · rw [setAll_one, setF_ne _ _ (by intro e; subst e; rw [h0 _ (Nat.le_refl _)] at hc; cases hc)]; exact hc
  · cases hx; exact same
  · rename_i c
    cases hx
    refine ⟨φ, M, Phi.le_refl _, Mem.le_refl _, h, ?_, Nat.le_refl _, h0, fun _ _ e => e⟩
    rw [hv.nils]
    exact VR.tree_mk 0 0 rfl (by simp) (fun _ _ => rfl) (.inl rfl) (fun i x j tv hx => by simp at hx)
  · rename_i nm
    split at hx
    · rename_i c xs ho
      split at hx
      rotate_left
      · cases hx
      rename_i htok
      cases hx
      exact freeze ho rfl (by simp [pureOf, setF_self, tokM, htok])
    · rename_i c xs m hne ho
      split at hx
      rotate_left
      · cases hx
      rename_i htok
      cases hx
      refine pure (by simp [pureOf, ho, htok]) fun n hn c' xs' m' ho' => ?_
      simp [rowName] at hn; subst hn
      intro hm; subst hm
      rw [ho] at ho'; injection ho' with ho'; injection ho' with _ _ h3; exact hne h3
    · rename_i c xs ho
      split at hx
      rotate_left
      · cases hx
      rename_i htok
      cases hx
      obtain ⟨M', hM, hW⟩ := h.freezeDeep hE hV.sub ho
      have hno : ∀ n, o n ≠ some (.deep c (.full xs)) → n ≠ nm := fun n hn e => hn (e ▸ ho)
      obtain ⟨g, hg, hdr⟩ := h.objs nm _ ho
      have hin := hW.objs nm _ (setF_self _ _ _)
      obtain ⟨g1, hg1, hL, hs1, _, hri⟩ := hin
      obtain ⟨g2, hg2, ad, cap, rfl, h3, h31, h4⟩ := hv.slw_inv
      rw [hg1] at hg2; cases hg2
      refine ⟨φ, M', Phi.le_refl _, hM, hW, ?_, Nat.le_refl _, fun n hn' => ?_, fun nm' cs hc => ?_⟩
      · refine VR.tree_mk g1.b 0 hL h3 ?_ (h4.imp id fun e => by rw [e.1, Nat.zero_mul]) fun i x j tv hx hj => ?_
        · intro ht he
          subst he
          simp [tok, ht] at htok
        · rw [Nat.zero_add, ← hs1]
          exact hri i x j tv hx hj
      · rw [setAll_one, setF_ne _ _ (hno n (by rw [h0 n hn']; simp))]; exact h0 n hn'
      · rw [setAll_one, setF_ne _ _ (hno nm' (by rw [hc]; simp))]; exact hc
    · cases hx
  · rename_i nm off len
    split at hx
    · rename_i c xs ho
      split at hx
      rotate_left
      · cases hx
      rename_i htok
      cases hx
      exact freeze ho rfl (by simp [pureOf, setF_self, tokM, htok])
    · rename_i c xs m hne ho
      split at hx
      rotate_left
      · cases hx
      rename_i htok
      cases hx
      refine pure (by simp [pureOf, ho, htok]) fun n hn c' xs' m' ho' => ?_
      simp [rowName] at hn; subst hn
      intro hm; subst hm
      rw [ho] at ho'; injection ho' with ho'; injection ho' with _ _ h3; exact hne h3
    · cases hx
  · cases hx; exact same

theorem fixOne_sound (hE : EnvOk E) {B : Base} {nt : Nat} {st st' : St S} {g : Tgt} {k : LK S} {a : Act} {w : World} (hi : Inv E B nt st a w) (h : fixOne st g k = some st') : Inv E B nt st' a w := by
  obtain ⟨φ, M, hrel, hB, h0⟩ := hi
  unfold fixOne at h
  split at h
  · obtain ⟨⟨v, wr, nx⟩, hx, rfl⟩ := Option.map_eq_some_iff.1 h
    obtain ⟨φ', M', h1, h2, h3, h4, h5, h6, _⟩ := fixVal_sound hE hrel.mem hB h0 (hrel.slots g.slot) hx
    refine ⟨φ', M', ⟨fun i => ?_, hrel.nt, hrel.defers, h3⟩, Nat.le_trans hB h5, h6⟩
    show VR E φ' M' (setF st.t g.slot v i) _
    by_cases e : i = g.slot
    · subst e; rw [setF_self]; exact h4
    · rw [setF_ne _ _ e]; exact (hrel.slots i).mono h1 h2
  · split at h
    · rename_i cs i x hac
      obtain ⟨⟨v, wr, nx⟩, hx, rfl⟩ := Option.map_eq_some_iff.1 h
      have hag : st.t g.slot = .agg cs ∧ cs[i]? = some x := by
        unfold aggCell at hac
        split at hac
        · rename_i cs' j he _
          obtain ⟨y, hy, he2⟩ := Option.map_eq_some_iff.1 hac
          cases he2
          exact ⟨he, hy⟩
        · cases hac
      have hsl := hrel.slots g.slot
      rw [hag.1] at hsl
      obtain ⟨vs, hvs, hlen, hcells⟩ := hsl.agg_inv
      have hi : i < cs.length := (List.getElem?_eq_some_iff.1 hag.2).1
      have hui : vs[i]? = some (vs[i]'(hlen ▸ hi)) := by simp
      obtain ⟨φ', M', h1, h2, h3, h4, h5, h6, _⟩ := fixVal_sound hE hrel.mem hB h0 (hcells i x _ hag.2 hui) hx
      refine ⟨φ', M', ⟨fun j => ?_, hrel.nt, hrel.defers, h3⟩, Nat.le_trans hB h5, h6⟩
      show VR E φ' M' (setF st.t g.slot _ j) _
      by_cases e : j = g.slot
      · subst e
        rw [setF_self, hvs]
        refine .agg (by simp [hlen]) fun q tv u hq hu => ?_
        rw [List.getElem?_set] at hq
        split at hq
        · rename_i hiq
          subst hiq
          have hq' : some v = some tv := by simpa [hi] using hq
          cases hq'; rw [hui] at hu; cases hu; exact h4
        · exact (hcells q tv u hq hu).mono h1 h2
      · rw [setF_ne _ _ e]; exact (hrel.slots j).mono h1 h2
    split at h
    · rename_i nm i hfo
      split at h
      · rename_i cs hbox
        split at h
        · rename_i v hv
          obtain ⟨⟨v', wr, nx⟩, hx, rfl⟩ := Option.map_eq_some_iff.1 h
          obtain ⟨g', hg', hcs⟩ := hrel.mem.objs nm _ hbox
          obtain ⟨u, hu1, hu2, hu3⟩ := hcs i v hv
          obtain ⟨φ', M', h1, h2, h3, h4, h5, h6, h7⟩ := fixVal_sound hE hrel.mem hB h0 hu3 hx
          have hb' := h7 nm cs hbox
          obtain ⟨g2, hg2, hcs2⟩ := h3.objs nm _ hb'
          obtain ⟨F, hgF⟩ := h1 nm g' hg'
          rw [hg2] at hgF
          obtain rfl := Option.some.inj hgF
          refine ⟨φ', M', ⟨fun j => (hrel.slots j).mono h1 h2, hrel.nt, hrel.defers, h3.rebox hE.toEncOk hb' ⟨_, hg2, fun j tv hj => ?_⟩⟩, Nat.le_trans hB h5, fun n hn => ?_⟩
          · rw [List.getElem?_set] at hj
            split at hj
            · rename_i hij
              subst hij
              split at hj
              · cases hj; exact ⟨u, hu1, hu2, h4⟩
              · cases hj
            · exact hcs2 j tv hj
          · show setF (setAll st.o wr) nm _ n = none
            rw [setF_ne _ _ (by intro e; subst e; rw [h6 _ hn] at hb'; cases hb')]; exact h6 n hn
        · cases h
      · cases h
    · cases h

theorem fixAll_sound (hE : EnvOk E) {B : Base} {nt : Nat} {a : Act} {w : World} : ∀ (l : List (Tgt × LK S)) (st st' : St S), Inv E B nt st a w → fixAll st l = some st' → Inv E B nt st' a w
  | [], st, st', hi, h => by simp only [fixAll, Option.some.injEq] at h; subst h; exact hi
  | (g, k) :: r, st, st', hi, h => by
    simp only [fixAll] at h
    split at h
    · rename_i st1 h1
      exact fixAll_sound hE r st1 st' (fixOne_sound hE hi h1) h
    · cases h

theorem reach_head (o : Nat → Option (Obj S)) (m k : Nat) (todo : List Nat) : (reach o k todo (List.range m)).Nodup ∧ (∀ i, i < m → (reach o k todo (List.range m))[i]? = some i) ∧ m ≤ (reach o k todo (List.range m)).length := by
  obtain ⟨r, hr⟩ := reach_pre o k todo (List.range m)
  refine ⟨reach_nodup o k _ _ List.nodup_range, fun i hi => ?_, ?_⟩
  · rw [hr, List.getElem?_append_left (by simpa using hi)]; simp [hi]
  · rw [hr]; simp

theorem Inv.count {B : Base} {o : Nat → Option (Obj S)} {w : World} {φ : Phi} {M : Mem} (h : RelW E B o w φ M) {ks roots : List Nat} (hnd : ks.Nodup) (hh : ∀ i, i < B.m → ks[i]? = some i) (hcl : closedUnder o ks roots = true) :
    RelW E B (fun i => (ks[i]?).map fun n => renObj (fun n => ks.idxOf n) ((o n).getD .gone)) w (fun i => (ks[i]?).bind φ) M := by
  refine h.tidy (B' := B) hnd hcl ⟨h.os.symm, h.tape.symm, h.output.symm, h.size, h.kept, h.mle, h.mnew, h.drawn⟩ (fun i n x b f _ hx hc => h.perm n x b f hx hc) fun i hi => ?_
  rw [hh i hi]
  exact h.ext i hi

theorem tabT_map (f : Nat → TV S) (i : Nat) : ∀ (live : List Nat), tabT live (live.map f) i = .dead ∨ (i ∈ live ∧ tabT live (live.map f) i = f i)
  | [] => .inl rfl
  | n :: r => by
    simp only [List.map_cons, tabT]
    cases hb : Nat.beq i n with
    | true =>
      have : i = n := Nat.eq_of_beq_eq_true hb
      subst this
      exact .inr ⟨by simp, rfl⟩
    | false =>
      rcases tabT_map f i r with h | ⟨h1, h2⟩
      · exact .inl h
      · exact .inr ⟨List.mem_cons_of_mem _ h1, h2⟩
theorem tidy_sound {B : Base} {nt : Nat} {live : List Nat} {st : St S} {vals : List (TV S)} {objs : List (Obj S)} {a : Act} {w : World} (hi : Inv E B nt st a w) (h : tidy B.m live st = some (vals, objs)) : Inv E B nt (mkSt live vals objs) a w := by
  obtain ⟨φ, M, hrel, hB, h0⟩ := hi
  unfold tidy at h
  simp only at h
  split at h
  · rename_i hcl
    cases h
    obtain ⟨hnd, hh, hl⟩ := reach_head st.o B.m 400 (kids st.o B.m ++ live.flatMap fun s => namesOf (st.t s))
    generalize reach st.o 400 (kids st.o B.m ++ live.flatMap fun s => namesOf (st.t s)) (List.range B.m) = ks at *
    refine ⟨fun i => (ks[i]?).bind φ, M, ⟨fun i => ?_, hrel.nt, hrel.defers, ?_⟩, by simpa [mkSt] using hl, fun n hn => ?_⟩
    · show VR E _ M (tabT live _ i) _
      rcases tabT_map (fun i => ren (fun n => ks.idxOf n) (st.t i)) i live with e | ⟨hlive, e⟩
      · rw [e]; exact .dead _
      · rw [e]
        refine (hrel.slots i).ren fun n hn g hg => ?_
        have hmem : n ∈ ks := closed_roots hcl (List.mem_append_right _ (List.mem_flatMap.2 ⟨i, hlive, hn⟩))
        rw [get_idx hmem]; exact hg
    · have := Inv.count hrel.mem hnd hh hcl
      have e : (mkSt live (live.map fun i => ren (fun n => ks.idxOf n) (st.t i)) (ks.map fun n => renObj (fun n => ks.idxOf n) ((st.o n).getD .gone))).o = fun i => (ks[i]?).map fun n => renObj (fun n => ks.idxOf n) ((st.o n).getD .gone) := by
        funext i
        show (List.map _ ks)[i]? = _
        rw [List.getElem?_map]
      rw [e]; exact this
    · show (List.map _ ks)[n]? = none
      exact List.getElem?_eq_none_iff.2 (by simpa [mkSt] using hn)
  · cases h

theorem headOf_sound (hE : EnvOk E) {B : Base} {nt : Nat} {live : List Nat} {fix : List (Tgt × LK S)} {st : St S} {vals : List (TV S)} {objs : List (Obj S)} {a : Act} {w : World} (hi : Inv E B nt st a w) (h : headOf B.m live fix st = some (vals, objs)) : Inv E B nt (mkSt live vals objs) a w := by
  unfold headOf at h
  split at h
  · rename_i st1 h1
    exact tidy_sound (fixAll_sound hE _ _ _ hi h1) h
  · cases h

/-! ### code -/
def toExit : Ex → Exit
  | .normal => .normal
  | .exit i => .exit i
  | .ret => .ret

/-- A loop of which the head is reached. -/
def loopWp (P : Program) (c : Code) (Q : Exit → Act → World → Prop) (a : Act) (w : World) : Prop :=
  ∀ (b : Frame) (k : List Item) (cs : List Frame), ∃ e a' w', Q e a' w' ∧ Arrives P (lone (b.at a (.code c :: .inLoop c :: k)) cs w) b k cs e a' w'
theorem loopWp_loop {P : Program} {Q : Exit → Act → World → Prop} {c : Code} {a : Act} {w : World} (h : loopWp P c Q a w) : (Code.loop c).wp P Q a w := by
  intro b k cs
  obtain ⟨e, a', w', hq, harr⟩ := h b k cs
  exact ⟨e, a', w', hq, .of_steps (.one step_loop) harr⟩
theorem loopWp_round {P : Program} {Q : Exit → Act → World → Prop} {c : Code} {a : Act} {w : World} (h : c.wp P (Exit.then (loopWp P c Q) Q) a w) : loopWp P c Q a w := by
  intro b k cs
  obtain ⟨e, a₁, w₁, hq, harr⟩ := h b (.inLoop c :: k) cs
  have out : ∀ e, (∀ (_ : Act) (_ : World), e ≠ .normal) → Q e a₁ w₁ → Arrives P (lone (b.at a (.code c :: .inLoop c :: k)) cs w) b (.inLoop c :: k) cs e a₁ w₁ → ∃ e a' w', Q e a' w' ∧ Arrives P (lone (b.at a (.code c :: .inLoop c :: k)) cs w) b k cs e a' w' :=
    fun e he hq harr => ⟨_, a₁, w₁, hq, .pass (x := .inLoop c) rfl (fun a w => .inl (he a w)) harr⟩
  cases e with
  | normal =>
    obtain ⟨e₂, a₂, w₂, hq₂, harr₂⟩ := hq b k cs
    exact ⟨e₂, a₂, w₂, hq₂, .of_steps (Steps.trans harr (.one step_inLoop)) harr₂⟩
  | exit id => exact out _ (by simp) hq harr
  | goto l => exact out _ (by simp) hq harr
  | ret => exact out _ (by simp) hq harr
  | panic ch => exact out _ (by simp) hq harr
  | outgrown => exact out _ (by simp) hq harr

/-- Code comes from a state to another, whatever follows. -/
def Det (E : Env S) (m nt : Nat) (wp : (Exit → Act → World → Prop) → Act → World → Prop) (st : St S) (e : Ex) (st' : St S) : Prop :=
  ∀ (B : Base), B.m = m → ∀ (Q : Exit → Act → World → Prop) (a : Act) (w : World), Inv E B nt st a w → (∀ a' w', Inv E B nt st' a' w' → Q (toExit e) a' w') → wp Q a w

theorem tcode_det (hE : EnvOk E) (hf : CallfOK E) {H : Hint S} (hnd : H.nd = false) {m nt N : Nat} {R : Type} : ∀ (c : Code) (cur : Nat) (_ : LoopsOK E H m nt N c cur) (st : St S) (K : Ex → St S → Option R) (r : R),
    tcode E H m nt N c cur st K = some r → ∃ e st', K e st' = some r ∧ Det E m nt (c.wp E.P) st e st' := by
  intro c
  induction c with
  | skip => intro cur hL st K r h; exact ⟨.normal, st, h, fun B hB Q a w hi hQ => wp_skip (hQ a w hi)⟩
  | region id ops draw =>
    intro cur hL st K r h
    simp only [tcode, hnd, Bool.false_and, Bool.false_eq_true, if_false, cond_false] at h
    obtain ⟨st', hk, hd⟩ := region_det hE hf h
    exact ⟨.normal, st', hk, fun B hB Q a w hi hQ => hd id B Q a w hi hQ⟩
  | seq x y ihx ihy =>
    intro cur hL st K r h
    simp only [tcode] at h
    obtain ⟨e, st1, hk, hd⟩ := ihx cur hL.1 st _ r h
    cases e with
    | normal =>
      simp only at hk
      split at hk
      · obtain ⟨e2, st2, hk2, hd2⟩ := ihy cur hL.2.1 st1 K r hk
        exact ⟨e2, st2, hk2, fun B hB Q a w hi hQ => wp_seq (hd B hB _ a w hi fun a' w' hi' => hd2 B hB Q a' w' hi' hQ)⟩
      · rename_i J hJ
        split at hk
        · cases hk
        · rename_i vals objs hs
          split at hk
          · rename_i L hLo
            have h3 := hL.2.2 J L hJ hLo R vals objs _ r hk
            obtain ⟨e2, st2, hk2, hd2⟩ := ihy cur hL.2.1 _ _ r h3
            unfold cutK at hk2
            split at hk2
            · rename_i v2 o2 hs2
              refine ⟨e2, _, hk2, fun B hB Q a w hi hQ => wp_seq (hd B hB _ a w hi fun a' w' hi' => ?_)⟩
              refine hd2 B hB Q a' w' (headOf_sound hE hi' (by rw [hB]; exact hs)) fun a2 w2 hi2 => hQ a2 w2 (headOf_sound hE hi2 (by rw [hB]; exact hs2))
            · cases hk2
          · obtain ⟨e2, st2, hk2, hd2⟩ := ihy cur hL.2.1 _ K r hk
            exact ⟨e2, st2, hk2, fun B hB Q a w hi hQ => wp_seq (hd B hB _ a w hi fun a' w' hi' => hd2 B hB Q a' w' (headOf_sound hE hi' (by rw [hB]; exact hs)) hQ)⟩
    | exit i => exact ⟨.exit i, st1, hk, fun B hB Q a w hi hQ => wp_seq (hd B hB _ a w hi hQ)⟩
    | ret => exact ⟨.ret, st1, hk, fun B hB Q a w hi hQ => wp_seq (hd B hB _ a w hi hQ)⟩
  | cond c x y ihx ihy =>
    intro cur hL st K r h
    simp only [tcode] at h
    split at h
    · rename_i q hq
      have hev : ∀ (B : Base) (a : Act) (w : World), Inv E B nt st a w → a.eval c = .bool q := by
        rintro B a w ⟨φ, M, hrel, _⟩
        have := hrel.ev c
        rw [hq] at this
        exact this.bool
      cases q with
      | true =>
        obtain ⟨e, st', hk, hd⟩ := ihx cur hL.1 st K r (by simpa using h)
        exact ⟨e, st', hk, fun B hB Q a w hi hQ => wp_cond (hev B a w hi) (hd B hB Q a w hi hQ)⟩
      | false =>
        obtain ⟨e, st', hk, hd⟩ := ihy cur hL.2 st K r (by simpa using h)
        exact ⟨e, st', hk, fun B hB Q a w hi hQ => wp_cond (hev B a w hi) (hd B hB Q a w hi hQ)⟩
    · cases h
  | block id c ih =>
    intro cur hL st K r h
    simp only [tcode] at h
    obtain ⟨e, st', hk, hd⟩ := ih id hL st _ r h
    cases e with
    | normal => exact ⟨.normal, st', hk, fun B hB Q a w hi hQ => wp_block (hd B hB _ a w hi hQ)⟩
    | ret => exact ⟨.ret, st', hk, fun B hB Q a w hi hQ => wp_block (hd B hB _ a w hi hQ)⟩
    | exit i =>
      simp only at hk
      split at hk
      · rename_i e
        refine ⟨.normal, st', hk, fun B hB Q a w hi hQ => wp_block (hd B hB _ a w hi fun a' w' hi' => ?_)⟩
        show if i = id then Q .normal a' w' else Q (.exit i) a' w'
        rw [if_pos e]; exact hQ a' w' hi'
      · rename_i e
        refine ⟨.exit i, st', hk, fun B hB Q a w hi hQ => wp_block (hd B hB _ a w hi fun a' w' hi' => ?_)⟩
        show if i = id then Q .normal a' w' else Q (.exit i) a' w'
        rw [if_neg e]; exact hQ a' w' hi'
  | loop c ih =>
    intro cur hL st K r h
    simp only [tcode] at h
    split at h
    · cases h
    · rename_i hd hhd
      split at h
      · cases h
      · rename_i vals objs hs
        have key : ∀ (n : Nat) (vals : List (TV S)) (objs : List (Obj S)), loopN (fun vals objs k => tcode E H m nt N c cur (mkSt hd.live vals objs) k) (headOf m hd.live hd.fix) (fun e => headOf m (hd.out e).1 (hd.out e).2) n vals objs (fun e vals objs => K e (mkSt (hd.out e).1 vals objs)) = some r → ∃ e st', K e st' = some r ∧ Det E m nt (loopWp E.P c) (mkSt hd.live vals objs) e st' := by
          intro n
          induction n with
          | zero => intro vals objs hl; simp [loopN] at hl
          | succ n ihn =>
            intro vals objs hl
            simp only [loopN] at hl
            obtain ⟨e, st1, hk, hdet⟩ := ih cur hL.1 _ _ r hl
            cases e with
            | normal =>
              simp only [roundK] at hk
              split at hk
              · rename_i vals' objs' hs''
                obtain ⟨e2, st2, hk2, hd2⟩ := ihn vals' objs' hk
                refine ⟨e2, st2, hk2, fun B hB Q a w hi hQ => loopWp_round (hdet B hB _ a w hi fun a' w' hi' => ?_)⟩
                exact hd2 B hB Q a' w' (headOf_sound hE hi' (by rw [hB]; exact hs'')) hQ
              · cases hk
            | exit i =>
              simp only [roundK] at hk
              split at hk
              · rename_i v' o' ho'
                exact ⟨.exit i, _, hk, fun B hB Q a w hi hQ => loopWp_round (hdet B hB _ a w hi fun a' w' hi' => hQ a' w' (headOf_sound hE hi' (by rw [hB]; exact ho')))⟩
              · cases hk
            | ret =>
              simp only [roundK] at hk
              split at hk
              · rename_i v' o' ho'
                exact ⟨.ret, _, hk, fun B hB Q a w hi hQ => loopWp_round (hdet B hB _ a w hi fun a' w' hi' => hQ a' w' (headOf_sound hE hi' (by rw [hB]; exact ho')))⟩
              · cases hk
        have h' : loopN (fun vals objs k => tcode E H m nt N c cur (mkSt hd.live vals objs) k) (headOf m hd.live hd.fix) (fun e => headOf m (hd.out e).1 (hd.out e).2) N vals objs (fun e vals objs => K e (mkSt (hd.out e).1 vals objs)) = some r := by
          split at h
          · rename_i L ho; exact hL.2 hd L hhd ho R vals objs _ r h
          · exact h
        obtain ⟨e, st', hk, hdet⟩ := key N vals objs h'
        exact ⟨e, st', hk, fun B hB Q a w hi hQ => loopWp_loop (hdet B hB Q a w (headOf_sound hE hi (by rw [hB]; exact hs)) hQ)⟩
  | exit id => intro cur hL st K r h; exact ⟨.exit id, st, h, fun B hB Q a w hi hQ => wp_exit (hQ a w hi)⟩
  | ret => intro cur hL st K r h; exact ⟨.ret, st, h, fun B hB Q a w hi hQ => wp_ret (hQ a w hi)⟩
  | rangeFunc f ps as b => intro cur hL st K r h; simp [tcode] at h
  | scope b => intro cur hL st K r h; simp [tcode] at h
  | label l => intro cur hL st K r h; simp [tcode] at h
  | goto l => intro cur hL st K r h; simp [tcode] at h
  | refuse s => intro cur hL st K r h; simp [tcode] at h

/-! ### functions -/
theorem VR.not_dead_undef {φ : Phi} {M : Mem} : VR E φ M (.undef : TV S) Go.undef := .pure .undef

def resOne (a : Act) : ResultVar → Sem Value
  | .tmp t => pure (a.tmps.getD t Go.undef)
  | .cell a' t => do loadVar t (← asAddr (a.tmps.getD a' Go.undef))
theorem results_eq (fn : Func) (a : Act) : results fn a.tmps = (do
    let vs ← fn.results.mapM (resOne a)
    pure (if h : vs.size = 1 then vs[0] else .tuple vs)) := by
  unfold results
  congr 1

theorem resVal_sound {B : Base} {nt : Nat} {st : St S} {a : Act} {w : World} {φ : Phi} {M : Mem} (hrel : Rel E B nt st.t st.o a w φ M) {x : ResultVar} {tv : TV S} (h : resVal E st x = some tv) :
    ∃ v, (resOne a x).run E.P w = .ok v w ∧ VR E φ M tv v := by
  unfold resVal at h
  split at h
  · rename_i t
    cases h
    exact ⟨_, rfl, hrel.slots t⟩
  · rename_i a' ty
    split at h
    · rename_i ag n cs k' nm hty hbe
      have hsl := hrel.slots a'
      have : ∃ b off, a.tmps.getD a' Go.undef = .pointer (some (at_ b off)) ∧ ∀ j y, cs[k' + j]? = some y → ∃ v, w.cell? (at_ b (off + j)) = some v ∧ VR E φ M y v := by
        generalize st.t a' = z at hbe hsl
        unfold behind at hbe
        split at hbe
        · rename_i nm i k
          split at hbe
          · rename_i cs' hbox
            split at hbe
            · rename_i hi
              cases hbe
              exact behind_box hrel.mem hbox hi hsl
            · cases hbe
          · rename_i c xs m hrow
            obtain ⟨x, hx, e⟩ := Option.map_eq_some_iff.1 hbe
            cases e
            exact behind_row hrel.mem hrow hx hsl
          · cases hbe
        · rename_i c x k
          cases hbe
          exact behind_iptr hrel.mem hsl
        · cases hbe
      obtain ⟨b, off, e, hcs⟩ := this
      obtain ⟨v, hrun, hvr⟩ := run_loadVar (E := E) hty h hcs
      refine ⟨v, ?_, hvr⟩
      show (do loadVar ty (← asAddr (a.tmps.getD a' Go.undef)) : Sem Value).run E.P w = _
      rw [e]
      rw [run_bind]
      exact hrun
    · cases h

theorem results_sound {B : Base} {st : St S} {a : Act} {w : World} {φ : Phi} {M : Mem} {fn : Func} {vs : List (TV S)} (hrel : Rel E B fn.ntmps st.t st.o a w φ M) (h : fn.results.toList.mapM (resVal E st) = some vs) :
    ∃ v, (results fn a.tmps).run E.P w = .ok v w ∧ VR E φ M (tupOf vs) v := by
  have list : ∀ (l : List ResultVar) (vs : List (TV S)), l.mapM (resVal E st) = some vs → ∃ us : List Value, (l.mapM (resOne a)).run E.P w = .ok us w ∧ vs.length = us.length ∧ ∀ (i : Nat) (tv : TV S) (u : Value), vs[i]? = some tv → us[i]? = some u → VR E φ M tv u := by
    intro l
    induction l with
    | nil => intro vs h; simp only [List.mapM_nil, Option.pure_def, Option.some.injEq] at h; subst h; exact ⟨[], by simp, rfl, fun i tv u h => by simp at h⟩
    | cons x r ih =>
      intro vs h
      rw [List.mapM_cons] at h
      simp only [Option.bind_eq_bind, Option.bind_eq_some_iff] at h
      obtain ⟨tv, h1, vs', h2, h3⟩ := h
      simp only [Option.pure_def, Option.some.injEq] at h3
      subst h3
      obtain ⟨v, hv, hvr⟩ := resVal_sound hrel h1
      obtain ⟨us, hu, hl, hus⟩ := ih vs' h2
      refine ⟨v :: us, ?_, by simp [hl], fun i tv' u hi hj => ?_⟩
      · rw [List.mapM_cons, run_bind, hv]
        simp only
        rw [run_bind, hu]
        rfl
      · cases i with
        | zero => simp at hi hj; subst hi; subst hj; exact hvr
        | succ i => exact hus i tv' u (by simpa using hi) (by simpa using hj)
  obtain ⟨us, hu, hl, hus⟩ := list _ vs h
  rw [results_eq]
  have hfs' : fn.results = fn.results.toList.toArray := by simp
  rw [hfs', List.mapM_toArray, map_eq_pure_bind, run_bind, run_bind, hu]
  simp only [run_pure]
  refine ⟨_, rfl, ?_⟩
  cases vs with
  | nil =>
    have : us = [] := by simpa using hl.symm
    subst this
    exact .tup rfl (fun i tv v h => by simp at h)
  | cons x r =>
    cases us with
    | nil => simp at hl
    | cons u us =>
      cases r with
      | nil =>
        have : us = [] := by simpa using hl
        subst this
        exact hus 0 x u rfl rfl
      | cons y r =>
        have : us.length = r.length + 1 := by simpa using hl.symm
        simp only [List.size_toArray, List.length_cons, this]
        rw [dif_neg (by omega)]
        exact .tup (by simp [this]) (fun i tv v h1 h2 => hus i tv v h1 (by simpa using h2))

theorem runFn_sound (hE : EnvOk E) (hf : CallfOK E) {H : Hint S} (hnd : H.nd = false) {N : Nat} {f : FuncId} {fn : Func} {R : Type} {args : List (TV S)} {objs : List (Obj S)} {K : Res S → Option R} {r : R} (hfn : E.P.funcs[f]? = some fn) (hname : (fn.name == "runtime.NumGoroutine") = false)
    (hLo : ∀ c, fn.body = some c → LoopsOK E H objs.length fn.ntmps N c 0) (h : runFn E H N fn args objs K = some r) : ∃ res, K res = some r ∧ CallOK E f args objs res := by
  unfold runFn at h
  split at h
  · cases h
  · rename_i c hbody
    obtain ⟨e, st, hk, hdet⟩ := tcode_det hE hf hnd c 0 (hLo c hbody) _ _ r h
    have hend : (e = .normal ∨ e = .ret) ∧ ∃ st', fixAll st H.exit = some st' ∧ ∃ res, finish E fn objs.length st' = some res ∧ K res = some r := by
      have fin : (match fixAll st H.exit with
        | some st' => (match finish E fn objs.length st' with
          | some r => K r
          | none => none)
        | none => none) = some r → ∃ st', fixAll st H.exit = some st' ∧ ∃ res, finish E fn objs.length st' = some res ∧ K res = some r := by
        intro hk
        split at hk
        · rename_i st' hfx
          split at hk
          · rename_i res hres; exact ⟨st', hfx, res, hres, hk⟩
          · cases hk
        · cases hk
      cases e with
      | normal => exact ⟨.inl rfl, fin hk⟩
      | ret => exact ⟨.inr rfl, fin hk⟩
      | exit i => cases hk
    obtain ⟨hex, st', hfx, res, hfin, hK⟩ := hend
    refine ⟨res, hK, ⟨fn, hfn, hname, by rw [hbody]; rfl⟩, fun B vals hBm hlen hargs hW => ?_⟩
    refine calls_of_wp hfn hbody (hdet B hBm _ _ B.w ⟨B.φ, B.M, ⟨fun i => ?_, ?_, rfl, hW⟩, ?_, ?_⟩ ?_)
    · show VR E B.φ B.M (args.getD i .undef) ((vals ++ Array.replicate (fn.ntmps - vals.size) Go.undef).getD i Go.undef)
      rw [List.getD_eq_getElem?_getD, Array.getD_eq_getD_getElem?]
      by_cases hi : i < vals.size
      · rw [Array.getElem?_append_left hi]
        have h1 : i < args.length := by omega
        rw [List.getElem?_eq_getElem h1, Array.getElem?_eq_getElem hi]
        exact hargs i _ _ (List.getElem?_eq_getElem h1) (Array.getElem?_eq_getElem hi)
      · rw [Array.getElem?_append_right (by omega), List.getElem?_eq_none_iff.2 (by omega), Array.getElem?_replicate]
        split
        · exact .pure .undef
        · exact .pure .undef
    · simp only [Array.size_append, Array.size_replicate]; omega
    · show B.m ≤ objs.length
      omega
    · intro n hn
      exact List.getElem?_eq_none_iff.2 hn
    · intro a' w' hi'
      have hi2 := fixAll_sound hE _ _ _ hi' hfx
      obtain ⟨φ, M, hrel, hB, h0⟩ := hi2
      unfold finish at hfin
      split at hfin
      · cases hfin
      · rename_i vs hvs
        simp only at hfin
        split at hfin
        · rename_i hcl
          cases hfin
          obtain ⟨v, hrun, hvr⟩ := results_sound hrel hvs
          rw [← hBm] at hcl
          obtain ⟨hnd, hh, hl⟩ := reach_head st'.o B.m 400 (kids st'.o B.m ++ namesOf (tupOf vs))
          have hks : reach st'.o 400 (kids st'.o objs.length ++ namesOf (tupOf vs)) (List.range objs.length) = reach st'.o 400 (kids st'.o B.m ++ namesOf (tupOf vs)) (List.range B.m) := by rw [hBm]
          rw [hks]
          generalize reach st'.o 400 (kids st'.o B.m ++ namesOf (tupOf vs)) (List.range B.m) = ks at *
          have post : bodyPost E.P fn (fun e w' => ∃ v φ' M', e = .returned v ∧ VR E φ' M' (ren (fun n => ks.idxOf n) (tupOf vs)) v ∧
              RelW E B (fun i : Nat => ((some ((ks.take objs.length).map fun n => renObj (fun n => ks.idxOf n) ((st'.o n).getD .gone))).getD objs ++ (ks.drop objs.length).map fun n => renObj (fun n => ks.idxOf n) ((st'.o n).getD .gone))[i]?) w' φ' M') .ret a' w' := by
            refine ⟨hrel.defers, v, hrun, v, (fun i : Nat => (ks[i]?).bind φ), M, rfl, hvr.ren fun n hn g hg => ?_, ?_⟩
            · show (ks[ks.idxOf n]?).bind φ = some g
              rw [get_idx (closed_roots hcl (List.mem_append_right _ hn))]; exact hg
            · have := Inv.count hrel.mem hnd hh hcl
              simp only [Option.getD_some, ← List.map_append, List.take_append_drop]
              have e : (fun i : Nat => (List.map (fun n => renObj (fun n => ks.idxOf n) ((st'.o n).getD .gone)) ks)[i]?) = fun i : Nat => (ks[i]?).map fun n => renObj (fun n => ks.idxOf n) ((st'.o n).getD .gone) := by
                funext i; rw [List.getElem?_map]
              rw [e]; exact this
          rcases hex with rfl | rfl
          · exact post
          · exact post
        · cases hfin
end TE
