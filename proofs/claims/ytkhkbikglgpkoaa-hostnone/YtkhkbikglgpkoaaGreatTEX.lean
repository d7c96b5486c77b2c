/- TE: deep rows: the moves on memory. -/
import Derived.Test.YtkhkbikglgpkoaaGreatTE9
namespace TE
open Go
variable {S : Sig} {E : Env S} {B : Base} {o : Nat → Option (Obj S)} {w : World} {φ : Phi} {M : Mem}
theorem enc_lt (hE : EncOk E) {c : S.K} {x : S.El c} {j : Nat} {tv : TV S} (h : (E.enc c x)[j]? = some tv) : j < E.sz c := by
  rw [← hE.len c x]; exact (List.getElem?_eq_some_iff.1 h).1
/-- What a deep row holds, once its blocks do not change any more. -/
theorem DR.rowIn (hE : EncOk E) (hS : SubOk E) {M' : Mem} (hM : M.le M') {c : S.K} {xs : List (Option (S.El c))} {g : GI} (h : DR E M w c xs g) :
    (∀ b off v, Own g b → w.cell? (at_ b off) = some v → M' b off = some v) → ∀ i x j tv, xs[i]? = some (some x) → (E.enc c x)[j]? = some tv → ∃ v, M' g.b (i * g.s + j) = some v ∧ CR E M' tv v := by
  induction h with
  | @mk c xs g vs G hL hs hle live cell val hsl sub dis out hF ih =>
    intro hown i x j tv hx hj
    have hjs := enc_lt hE hj
    have hi : i < xs.length := (List.getElem?_eq_some_iff.1 hx).1
    have hlt : i * g.s + j < g.n := by
      have : (i + 1) * g.s ≤ g.L * g.s := Nat.mul_le_mul_right _ (by omega)
      rw [Nat.succ_mul] at this
      omega
    have hM1 := hown g.b _ _ (.inl ⟨by omega, rfl⟩) (cell i x j tv hx hj)
    refine ⟨vs i j, hM1, ?_⟩
    cases hs1 : E.sub c j with
    | false => exact (val i x j tv hx hj hs1).mono hM
    | true =>
      obtain ⟨d, ys, h1, h2⟩ := hS.tree c x j hjs hs1
      rw [hj] at h1
      cases h1
      have hin : Inner E c xs i j := ⟨x, hx, hjs, hs1⟩
      obtain ⟨a, cap, e1, e2, e3, e4⟩ := hsl i j hin
      obtain ⟨f1, f2, f3, f4⟩ := (sub i x j d ys hx hj hs1).facts
      rw [e1]
      have hlen : (G i j).L = ys.length := by rw [f1, List.length_map]
      rw [hlen]
      have hn : ∀ i' x' j' tv', ys[i']? = some x' → (E.enc d x')[j']? = some tv' → ∃ v, M' (G i j).b (i' * (G i j).s + j') = some v ∧ CR E M' tv' v := fun i' x' j' tv' hx' hj' =>
        ih i x j d ys hx hj hs1 (fun b off v hb hv => hown b off v (.inr ((hF b).2 ⟨i, j, hin, hb⟩)) hv) i' x' j' tv' (by rw [List.getElem?_map, hx']; rfl) hj'
      refine .tree (G i j).b 0 (fun i' j' => (M' (G i j).b (i' * (G i j).s + j')).getD undef) (by omega) (fun h3 => by rw [h2] at h3; cases h3) ?_ (fun i' x' j' tv' hx' hj' => ?_) fun i' x' j' tv' hx' hj' => ?_
      · rcases e4 with e4 | ⟨e4, _⟩
        · exact .inl e4
        · exact .inr (by rw [e4, Nat.zero_mul])
      · obtain ⟨v, h5, _⟩ := hn i' x' j' tv' hx' hj'
        rw [h5, Nat.zero_add, ← f2, h5]; rfl
      · obtain ⟨v, h5, h6⟩ := hn i' x' j' tv' hx' hj'
        rw [h5]; exact h6
open Classical in
/-- Memory with all cells of an object's own blocks, as they are now. -/
noncomputable def freezeD (M : Mem) (w : World) (g : GI) : Mem := fun b off => if Own g b then w.cell? (at_ b off) else M b off
/-- A deep row of which nothing is taken out becomes a row that does not change any more. -/
theorem RelW.freezeDeep (hE : EncOk E) (hS : SubOk E) (h : RelW E B o w φ M) {nm : Nat} {c : S.K} {ys : List (S.El c)} (hs : o nm = some (.deep c (.full ys))) :
    ∃ M', M.le M' ∧ RelW E B (setF o nm (some (.row c ys .ro))) w φ M' := by
  obtain ⟨g, hg, hd⟩ := h.objs nm _ hs
  have hd : DR E M w c (ys.map some) g := hd
  have hcl : ∀ b, Own g b → claim φ nm (.deep c (.full ys)) b 0 := fun b hb => ⟨g, hg, hb, rfl⟩
  have hM : M.le (freezeD M w g) := by
    intro b off v hv
    unfold freezeD
    rw [if_neg]
    · exact hv
    · intro hb
      have := h.mdis nm _ b 0 off hs (hcl b hb) (Nat.zero_le _)
      rw [hv] at this; cases this
  obtain ⟨f1, f2, f3, f4⟩ := hd.facts
  refine ⟨freezeD M w g, hM, ?_⟩
  refine h.step hE (· = nm) (Own g) (Phi.le_refl _) hM (Nat.le_refl _) rfl rfl rfl (fun _ _ _ => rfl)
    (fun b hb => ⟨nm, _, 0, rfl, hs, hcl b hb, fun _ _ => rfl⟩) (fun b off hd => ?_) (fun b off v h1 h2 => ?_) (fun n' hn' => ⟨setF_ne _ _ hn', rfl⟩) ?_ ?_ ?_ ?_ (fun _ _ => rfl)
  · unfold freezeD at hd
    split at hd
    · rename_i hb; exact .inl hb
    · exact absurd rfl hd
  · unfold freezeD at h1
    split at h1
    · exact h1
    · rw [h1] at h2; cases h2
  · rintro n' y rfl hy
    rw [setF_self] at hy; cases hy
    refine ⟨g, hg, by rw [f1, List.length_map], f2, .inl rfl, fun i x j tv hi hj => ?_⟩
    exact hd.rowIn hE hS hM (fun b off v hb hv => by unfold freezeD; rw [if_pos hb]; exact hv) i x j tv (by rw [List.getElem?_map, hi]; rfl) hj
  · rintro n' rfl hy
    rw [setF_self] at hy; cases hy
  · rintro n' y b f rfl hy hcl
    rw [setF_self] at hy; cases hy
    exact absurd hcl claim_ro
  · rintro n1 n2 _ _ _ _ _ rfl rfl _ _ _ _; rfl
/-- An empty deep row. -/
theorem DR.empty {c : S.K} : DR E M w c [] ⟨0, E.sz c, 0, 0, fun _ => false⟩ :=
  .mk (fun _ _ => undef) (fun _ _ => ⟨0, 0, 0, 0, fun _ => false⟩) rfl rfl (by simp) (fun j hj => by simp at hj) (fun i x j tv hx => by simp at hx) (fun i x j tv hx => by simp at hx)
    (fun i j ⟨x, hx, _⟩ => by simp at hx) (fun i x j d ys hx => by simp at hx) (fun i j i' j' b ⟨x, hx, _⟩ => by simp at hx) (fun i j ⟨x, hx, _⟩ => by simp at hx)
    (fun b => ⟨fun h => by simp at h, fun ⟨i, j, ⟨x, hx, _⟩, _⟩ => by simp at hx⟩)
/-- A nil slice becomes an empty deep row. -/
theorem RelW.newDeep (hE : EncOk E) (h : RelW E B o w φ M) {nm : Nat} (hn : o nm = none) (hB : B.m ≤ nm) (c : S.K) :
    RelW E B (setF o nm (some (.deep c (.full [])))) w (setF φ nm (some ⟨0, E.sz c, 0, 0, fun _ => false⟩)) M ∧ φ.le (setF φ nm (some ⟨0, E.sz c, 0, 0, fun _ => false⟩)) := by
  have hle : φ.le (setF φ nm (some ⟨0, E.sz c, 0, 0, fun _ => false⟩)) := Phi.le_of <| by
    intro n g hg
    by_cases e : n = nm
    · subst e; rw [h.fresh n hn] at hg; cases hg
    · rw [setF_ne _ _ e]; exact hg
  have hcl : ∀ b f, claim (setF φ nm (some ⟨0, E.sz c, 0, 0, fun _ => false⟩)) nm (.deep c (.full []) : Obj S) b f → False := fun b f q => by
    have q := claim_gi (setF_self _ _ _) q
    rcases q.1 with q | q
    · exact q.1 rfl
    · cases q
  refine ⟨h.step hE (· = nm) (fun _ => False) hle (Mem.le_refl _) (Nat.le_refl _) rfl rfl rfl (fun _ _ _ => rfl) (fun b hb => hb.elim) (fun b off hd => absurd rfl hd)
    (fun b off v h1 h2 => by rw [h1] at h2; cases h2) (fun n' hn' => ⟨setF_ne _ _ hn', setF_ne _ _ hn'⟩) ?_ ?_ ?_ ?_ (fun n' hn' => setF_ne _ _ (by omega)), hle⟩
  · rintro n' y rfl hy
    rw [setF_self] at hy; cases hy
    exact ⟨_, setF_self _ _ _, DR.empty⟩
  · rintro n' rfl hy
    rw [setF_self] at hy; cases hy
  · rintro n' y b f rfl hy hc
    rw [setF_self] at hy; cases hy
    exact (hcl b f hc).elim
  · rintro n1 n2 _ _ _ _ _ rfl rfl _ _ _ _; rfl
/-- Has an element of this code rows within? -/
def NoSub (E : Env S) (d : S.K) : Prop := ∀ j, j < E.sz d → E.sub d j = false
/-- A row of the call's own, of elements without rows within, as a deep row. -/
theorem DR.ofRow (hE : EncOk E) {nm : Nat} {d : S.K} (hd : NoSub E d) {ys : List (S.El d)} {g : GI} (hg : φ nm = some g) (h : ObjR E φ M w nm (.row d ys .own)) : DR E M w d (ys.map some) { g with F := fun _ => false } := by
  obtain ⟨g', hg', hL, hs, hle, hlive, hrow⟩ := h
  rw [hg] at hg'; cases hg'
  have hle : g.L * g.s ≤ g.n := hle.resolve_left (by intro e; cases e)
  have hin : ∀ i j, ¬ Inner E d (ys.map some) i j := fun i j ⟨x, _, h1, h2⟩ => by rw [hd j h1] at h2; cases h2
  have hx' : ∀ i x, (ys.map some)[i]? = some (some x) → ys[i]? = some x := fun i x hx => by
    rw [List.getElem?_map] at hx
    cases hy : ys[i]? with
    | none => rw [hy] at hx; cases hx
    | some y => rw [hy] at hx; cases hx; rfl
  refine .mk (fun i j => (w.cell? (at_ g.b (i * g.s + j))).getD undef) (fun _ _ => g) (by simpa using hL) hs hle hlive (fun i x j tv hx hj => ?_) (fun i x j tv hx hj _ => ?_) (fun i j h => absurd h (hin i j))
    (fun i x j d' ys' hx hj h1 => by rw [hd j (enc_lt hE hj)] at h1; cases h1) (fun i j i' j' b h => absurd h (hin i j)) (fun i j h => absurd h (hin i j)) (fun b => ⟨fun h => by simp at h, fun ⟨i, j, h, _⟩ => absurd h (hin i j)⟩)
  · obtain ⟨v, hv, _⟩ := hrow i x j tv (hx' i x hx) hj
    simp only [hv]; rfl
  · obtain ⟨v, hv, hc⟩ := hrow i x j tv (hx' i x hx) hj
    simp only [hv]; exact hc
/-- And back. -/
theorem DR.toRow {nm : Nat} {d : S.K} (hE : EncOk E) (hd : NoSub E d) {ys : List (S.El d)} {g : GI} (hg : φ nm = some g) (h : DR E M w d (ys.map some) g) : ObjR E φ M w nm (.row d ys .own) := by
  cases h with
  | mk vs G hL hs hle live cell val hsl sub dis out hF =>
    refine ⟨g, hg, by simpa using hL, hs, .inr hle, live, fun i x j tv hx hj => ?_⟩
    have hx' : (ys.map some)[i]? = some (some x) := by rw [List.getElem?_map, hx]; rfl
    exact ⟨vs i j, cell i x j tv hx' hj, val i x j tv hx' hj (hd j (enc_lt hE hj))⟩
theorem deepc_no {d : S.K} (h : deepc E d = false) : NoSub E d := fun j hj => by
  unfold deepc at h
  rw [List.any_eq_false] at h
  simpa using h j (List.mem_range.2 hj)
theorem objOf_R (hE : EncOk E) {nm : Nat} {d : S.K} {ys : List (S.El d)} {g : GI} (hg : φ nm = some g) (h : DR E M w d (ys.map some) g) : ObjR E φ M w nm (objOf E d ys) := by
  unfold objOf
  cases hd : deepc E d with
  | true => exact ⟨g, hg, h⟩
  | false => exact h.toRow hE (deepc_no hd) hg
theorem objOf_claim {nm : Nat} {d : S.K} {ys : List (S.El d)} {g : GI} (hg : φ nm = some g) {b f : Nat} (h : claim φ nm (objOf E d ys) b f) : Own g b ∧ f = 0 := by
  have h := claim_gi hg h
  unfold objOf at h
  cases hd : deepc E d with
  | true => rw [hd, if_pos rfl] at h; exact h
  | false => rw [hd, if_neg (by simp)] at h; exact ⟨.inl ⟨h.1, h.2.1⟩, h.2.2⟩
open Classical in
/-- An element is taken out of a deep row: its rows get names. -/
theorem RelW.openDeep (hE : EncOk E) (hS : SubOk E) (h : RelW E B o w φ M) {nm : Nat} {c : S.K} {xs : List (Option (S.El c))} {dx dx' : DX (S.El c)} {i : Nat} {x : S.El c} (hs : o nm = some (.deep c dx)) (hdx : dx.get = xs) (hdx' : dx'.get = xs.set i none) (hx : xs[i]? = some (some x)) (q : Nat → Nat)
    (hq : ∀ j, j < E.sz c → E.sub c j = true → o (q j) = none ∧ B.m ≤ q j) (hinj : ∀ j j', j < E.sz c → E.sub c j = true → j' < E.sz c → E.sub c j' = true → q j = q j' → j = j')
    {o' : Nat → Option (Obj S)} (ho1 : o' nm = some (.deep c dx')) (ho2 : ∀ j d ys, E.sub c j = true → (E.enc c x)[j]? = some (.tree d ys) → o' (q j) = some (objOf E d ys))
    (ho3 : ∀ n, n ≠ nm → (∀ j, j < E.sz c → E.sub c j = true → n ≠ q j) → o' n = o n) {g : GI} (hg : φ nm = some g) :
    ∃ φ', φ.le φ' ∧ RelW E B o' w φ' M ∧ ∀ j tv, (E.enc c x)[j]? = some tv → ∃ v, w.cell? (at_ g.b (i * g.s + j)) = some v ∧ VR E φ' M (if E.sub c j = true then .slw (q j) else tv) v := by
  obtain ⟨g0, hg0, hd⟩ := h.objs nm _ hs
  rw [hg] at hg0; cases hg0
  rw [hdx] at hd
  cases hd with
  | mk vs G hL hsz hle live cell val hsl sub dis out hF =>
    have hcl : ∀ b, Own g b → claim φ nm (.deep c dx) b 0 := fun b hb => ⟨g, hg, hb, rfl⟩
    have hin : ∀ j, j < E.sz c → E.sub c j = true → Inner E c xs i j := fun j h1 h2 => ⟨x, hx, h1, h2⟩
    have hset : ∀ i' j', Inner E c (xs.set i none) i' j' → Inner E c xs i' j' ∧ i' ≠ i := by
      rintro i' j' ⟨y, hy, h1, h2⟩
      by_cases e : i' = i
      · subst e
        rw [List.getElem?_set_self (List.getElem?_eq_some_iff.1 hx).1] at hy; cases hy
      · rw [List.getElem?_set_ne (Ne.symm e)] at hy
        exact ⟨⟨y, hy, h1, h2⟩, e⟩
    let F' : Nat → Bool := fun b => decide (∃ i' j', Inner E c (xs.set i none) i' j' ∧ Own (G i' j') b)
    have hF' : ∀ b, F' b = true ↔ ∃ i' j', Inner E c (xs.set i none) i' j' ∧ Own (G i' j') b := fun b => decide_eq_true_iff
    have hFle : ∀ b, Own { g with F := F' } b → Own g b := by
      rintro b (hb | hb)
      · exact .inl hb
      · obtain ⟨i', j', h1, h2⟩ := (hF' b).1 hb
        exact .inr ((hF b).2 ⟨i', j', (hset i' j' h1).1, h2⟩)
    let φ' : Phi := fun n => if n = nm then some { g with F := F' } else if hj : ∃ j, j < E.sz c ∧ E.sub c j = true ∧ n = q j then some (G i hj.choose) else φ n
    have hqn : ∀ j, j < E.sz c → E.sub c j = true → q j ≠ nm := fun j h1 h2 e => by have := (hq j h1 h2).1; rw [e, hs] at this; cases this
    have φ1 : φ' nm = some { g with F := F' } := if_pos rfl
    have φ2 : ∀ j, j < E.sz c → E.sub c j = true → φ' (q j) = some (G i j) := fun j h1 h2 => by
      have hex : ∃ j', j' < E.sz c ∧ E.sub c j' = true ∧ q j = q j' := ⟨j, h1, h2, rfl⟩
      show (if _ then _ else _) = _
      rw [if_neg (hqn j h1 h2), dif_pos hex, ← hinj j hex.choose h1 h2 hex.choose_spec.1 hex.choose_spec.2.1 hex.choose_spec.2.2]
    have φ3 : ∀ n, n ≠ nm → (∀ j, j < E.sz c → E.sub c j = true → n ≠ q j) → φ' n = φ n := fun n h1 h2 => by
      show (if _ then _ else _) = _
      rw [if_neg h1, dif_neg]
      rintro ⟨j, h3, h4, h5⟩
      exact h2 j h3 h4 h5
    have hle' : φ.le φ' := by
      intro n g1 h1
      by_cases e : n = nm
      · subst e; rw [hg] at h1; cases h1; exact ⟨F', φ1⟩
      · by_cases e2 : ∃ j, j < E.sz c ∧ E.sub c j = true ∧ n = q j
        · obtain ⟨j, h3, h4, rfl⟩ := e2
          rw [h.fresh _ (hq j h3 h4).1] at h1; cases h1
        · exact ⟨g1.F, by rw [φ3 n e fun j h3 h4 h5 => e2 ⟨j, h3, h4, h5⟩]; exact h1⟩
    have tree : ∀ j, j < E.sz c → E.sub c j = true → ∃ d ys, (E.enc c x)[j]? = some (.tree d ys) ∧ o' (q j) = some (objOf E d ys) ∧ DR E M w d (ys.map some) (G i j) := fun j h1 h2 => by
      obtain ⟨d, ys, h3, _⟩ := hS.tree c x j h1 h2
      exact ⟨d, ys, h3, ho2 j d ys h2 h3, sub i x j d ys hx h3 h2⟩
    have ownF : ∀ j b, j < E.sz c → E.sub c j = true → Own (G i j) b → Own g b := fun j b h1 h2 hb => .inr ((hF b).2 ⟨i, j, hin j h1 h2, hb⟩)
    -- the blocks of a name that may have changed
    have own : ∀ n y b f, (n = nm ∨ ∃ j, j < E.sz c ∧ E.sub c j = true ∧ n = q j) → o' n = some y → claim φ' n y b f → f = 0 ∧ Own g b ∧ ((n = nm ∧ Own { g with F := F' } b) ∨ ∃ j, j < E.sz c ∧ E.sub c j = true ∧ n = q j ∧ Own (G i j) b) := by
      rintro n y b f (rfl | ⟨j, h1, h2, rfl⟩) hy hc
      · rw [ho1] at hy; cases hy
        obtain ⟨k1, k2⟩ := claim_gi φ1 hc
        exact ⟨k2, hFle b k1, .inl ⟨rfl, k1⟩⟩
      · obtain ⟨d, ys, _, h4, _⟩ := tree j h1 h2
        rw [h4] at hy; cases hy
        obtain ⟨k1, k2⟩ := objOf_claim (φ2 j h1 h2) hc
        exact ⟨k2, ownF j b h1 h2 k1, .inr ⟨j, h1, h2, rfl, k1⟩⟩
    refine ⟨φ', hle', ?_, fun j tv hj => ?_⟩
    · refine h.step2 hE (fun n => n = nm ∨ ∃ j, j < E.sz c ∧ E.sub c j = true ∧ n = q j) (fun _ => False) hle' (Mem.le_refl _) (Nat.le_refl _) rfl rfl rfl (fun _ _ _ => rfl) (fun b hb => hb.elim) (fun b off hd => absurd rfl hd)
        (fun b off v h1 h2 => by rw [h1] at h2; cases h2) (fun n hn => ?_) (fun n y hn hy => ?_) (fun n hn hy => ?_) (fun n y b f hn hy hc => ?_) (fun n1 n2 y1 y2 b f1 f2 hn1 hn2 hy1 hy2 hc1 hc2 => ?_) (fun n hn => ?_)
      · have a1 : n ≠ nm := fun e => hn (.inl e)
        have a2 : ∀ j, j < E.sz c → E.sub c j = true → n ≠ q j := fun j h1 h2 e => hn (.inr ⟨j, h1, h2, e⟩)
        exact ⟨ho3 n a1 a2, φ3 n a1 a2⟩
      · rcases hn with rfl | ⟨j, h1, h2, rfl⟩
        · rw [ho1] at hy; cases hy
          have back : ∀ {i' : Nat} {y : S.El c}, (xs.set i none)[i']? = some (some y) → xs[i']? = some (some y) := fun {i' y} hy => by
            by_cases e : i' = i
            · subst e
              rw [List.getElem?_set_self (List.getElem?_eq_some_iff.1 hx).1] at hy; cases hy
            · rwa [List.getElem?_set_ne (Ne.symm e)] at hy
          refine ⟨_, φ1, ?_⟩
          rw [hdx']
          exact .mk vs G (by simpa using hL) hsz hle live (fun i' y j tv hy hj => cell i' y j tv (back hy) hj) (fun i' y j tv hy hj h0 => val i' y j tv (back hy) hj h0) (fun i' j hi' => hsl i' j (hset i' j hi').1)
            (fun i' y j d ys hy hj h1 => sub i' y j d ys (back hy) hj h1) (fun i1 j1 i2 j2 b k1 k2 => dis i1 j1 i2 j2 b (hset i1 j1 k1).1 (hset i2 j2 k2).1) (fun i' j hi' => out i' j (hset i' j hi').1) hF'
        · obtain ⟨d, ys, _, h4, h5⟩ := tree j h1 h2
          rw [h4] at hy; cases hy
          exact objOf_R hE (φ2 j h1 h2) h5
      · rcases hn with rfl | ⟨j, h1, h2, rfl⟩
        · rw [ho1] at hy; cases hy
        · obtain ⟨d, ys, _, h4, _⟩ := tree j h1 h2
          rw [h4] at hy; cases hy
      · obtain ⟨rfl, k1, _⟩ := own n y b f hn hy hc
        exact ⟨h.csz nm _ b 0 hs (hcl b k1), .inr ⟨nm, _, 0, .inl rfl, hs, hcl b k1⟩, fun off hf => h.mdis nm _ b 0 off hs (hcl b k1) hf⟩
      · obtain ⟨_, _, k1⟩ := own n1 y1 b f1 hn1 hy1 hc1
        obtain ⟨_, _, k2⟩ := own n2 y2 b f2 hn2 hy2 hc2
        have apart : ∀ j, j < E.sz c → E.sub c j = true → Own { g with F := F' } b → ¬ Own (G i j) b := by
          rintro j h1 h2 (hb | hb) hb2
          · obtain ⟨hb0, rfl⟩ := hb
            exact out i j (hin j h1 h2) hb0 hb2
          · obtain ⟨i', j', h3, h4⟩ := (hF' b).1 hb
            obtain ⟨h5, h6⟩ := hset i' j' h3
            exact h6 (dis i' j' i j b h5 (hin j h1 h2) h4 hb2).1
        rcases k1 with ⟨rfl, k1⟩ | ⟨j1, p1, p2, rfl, k1⟩ <;> rcases k2 with ⟨e2, k2⟩ | ⟨j2, p3, p4, e2, k2⟩
        · exact e2.symm
        · exact absurd k2 (apart j2 p3 p4 k1)
        · exact absurd k1 (apart j1 p1 p2 k2)
        · rw [e2, (dis i j1 i j2 b (hin j1 p1 p2) (hin j2 p3 p4) k1 k2).2]
      · by_cases e : n = nm
        · subst e; rw [φ1, hg]; rfl
        · rw [φ3 n e fun j h1 h2 e2 => by have := (hq j h1 h2).2; omega]
    · refine ⟨vs i j, cell i x j tv hx hj, ?_⟩
      cases hsub : E.sub c j with
      | false => rw [if_neg (by simp)]; exact .pure (val i x j tv hx hj hsub)
      | true =>
        rw [if_pos rfl]
        exact .slw (φ2 j (enc_lt hE hj) hsub) (hsl i j (hin j (enc_lt hE hj) hsub))
theorem objOf_DR (hE : EncOk E) {nm : Nat} {d : S.K} {ys : List (S.El d)} {g : GI} (hg : φ nm = some g) (h : ObjR E φ M w nm (objOf E d ys)) :
    ∃ F, DR E M w d (ys.map some) { g with F := F } ∧ ∀ b, Own { g with F := F } b → claim φ nm (objOf E d ys) b 0 := by
  unfold objOf at h ⊢
  cases hd : deepc E d with
  | true =>
    rw [hd, if_pos rfl] at h
    obtain ⟨g', hg', h1⟩ := h
    rw [hg] at hg'; cases hg'
    exact ⟨g.F, h1, fun b hb => ⟨g, hg, hb, rfl⟩⟩
  | false =>
    rw [hd, if_neg (by simp)] at h
    refine ⟨fun _ => false, DR.ofRow hE (deepc_no hd) hg h, fun b hb => ?_⟩
    rw [if_neg (by simp)]
    rcases hb with hb | hb
    · exact ⟨g, hg, hb.1, hb.2, rfl⟩
    · cases hb
/-- A live cell stays so where cells are written. -/
theorem live_write {b off : Nat} {us : List Value} (hl : ∀ j, j < us.length → Live w b (off + j)) {b' k : Nat} (h : Live w b' k) : Live (writeCells w b off us) b' k := by
  obtain ⟨⟨u, hu⟩, hf⟩ := h
  refine ⟨?_, by rw [writeCells_frozen]; exact hf⟩
  by_cases e : b' = b
  · subst e
    by_cases hin : off ≤ k ∧ k < off + us.length
    · obtain ⟨u', hu'⟩ : ∃ u', us[k - off]? = some u' := ⟨_, List.getElem?_eq_getElem (by omega)⟩
      have := writeCells_at us w b' off (fun q hq => (hl q hq).1) _ u' hu'
      rw [show off + (k - off) = k by omega] at this
      exact ⟨u', this⟩
    · by_cases hlo : k < off
      · exact ⟨u, by rw [writeCells_below _ w b' _ k hlo]; exact hu⟩
      · exact ⟨u, by rw [writeCells_above _ w b' _ k (by omega)]; exact hu⟩
  · exact ⟨u, by rw [cell_of_heap (writeCells_heap us w b off b' e)]; exact hu⟩
open Classical in
/-- An element is put into a deep row: its rows lose their names. -/
theorem RelW.closeDeep (hE : EncOk E) (hS : SubOk E) (h : RelW E B o w φ M) {nm : Nat} {c : S.K} {xs : List (Option (S.El c))} {dx dx' : DX (S.El c)} {i : Nat} {x : S.El c} (hs : o nm = some (.deep c dx)) (hdx : dx.get = xs) (hdx' : dx'.get = xs.set i (some x)) (hi : i < xs.length) (m : Nat → Option Nat) (us : List Value) (hul : us.length = E.sz c)
    {g : GI} (hg : φ nm = some g) (hinj : ∀ j j' n, m j = some n → m j' = some n → j = j')
    (hsub : ∀ j d ys v, E.sub c j = true → (E.enc c x)[j]? = some (.tree d ys) → us[j]? = some v →
      (∃ n gj, m j = some n ∧ n ≠ nm ∧ o n = some (objOf E d ys) ∧ φ n = some gj ∧ SliceAt gj 0 gj.L v) ∨ (m j = none ∧ ys = [] ∧ SliceAt ⟨0, E.sz d, 0, 0, fun _ => false⟩ 0 0 v))
    (hm : ∀ j n, m j = some n → j < E.sz c ∧ E.sub c j = true)
    (hval : ∀ j tv v, E.sub c j = false → (E.enc c x)[j]? = some tv → us[j]? = some v → CR E M tv v)
    {o' : Nat → Option (Obj S)} (ho1 : o' nm = some (.deep c dx')) (ho2 : ∀ j n, m j = some n → o' n = some .gone) (ho3 : ∀ n, n ≠ nm → (∀ j, m j ≠ some n) → o' n = o n) :
    ∃ φ', φ.le φ' ∧ RelW E B o' (writeCells w g.b (i * g.s) us) φ' M := by
  obtain ⟨g0, hg0, hd⟩ := h.objs nm _ hs
  rw [hg] at hg0; cases hg0
  rw [hdx] at hd
  cases hd with
  | mk vs G hL hsz hle live cell val hsl sub dis out hF =>
    have hcl : ∀ b, Own g b → claim φ nm (.deep c dx) b 0 := fun b hb => ⟨g, hg, hb, rfl⟩
    have hbig : ∀ i', i' < xs.length → ∀ j, j < E.sz c → i' * g.s + j < g.n := by
      intro i' hi' j hj
      have : (i' + 1) * g.s ≤ g.L * g.s := Nat.mul_le_mul_right _ (by omega)
      rw [Nat.succ_mul] at this
      omega
    have hn0 : g.n ≠ 0 := by have := hbig i hi 0 (hE.pos c); omega
    have hlw : ∀ j, j < us.length → Live w g.b (i * g.s + j) := fun j hj => live _ (hbig i hi j (by omega))
    have hclb : claim φ nm (.deep c dx) g.b 0 := hcl g.b (.inl ⟨hn0, rfl⟩)
    -- the rows that go in
    have new : ∀ j, j < E.sz c → E.sub c j = true → ∃ d ys v gj, (E.enc c x)[j]? = some (.tree d ys) ∧ us[j]? = some v ∧ SliceAt gj 0 gj.L v ∧ DR E M w d (ys.map some) gj ∧
        ∀ b, Own gj b → ∃ n, m j = some n ∧ n ≠ nm ∧ o n = some (objOf E d ys) ∧ claim φ n (objOf E d ys) b 0 := by
      intro j h1 h2
      obtain ⟨d, ys, h3, _⟩ := hS.tree c x j h1 h2
      obtain ⟨v, h4⟩ : ∃ v, us[j]? = some v := ⟨_, List.getElem?_eq_getElem (by omega)⟩
      rcases hsub j d ys v h2 h3 h4 with ⟨n, gj, a1, a2, a3, a4, a5⟩ | ⟨a1, rfl, a3⟩
      · obtain ⟨F, b1, b2⟩ := objOf_DR hE a4 (h.objs n _ a3)
        exact ⟨d, ys, v, { gj with F := F }, h3, h4, a5, b1, fun b hb => ⟨n, a1, a2, a3, b2 b hb⟩⟩
      · refine ⟨d, [], v, ⟨0, E.sz d, 0, 0, fun _ => false⟩, h3, h4, a3, DR.empty, fun b hb => ?_⟩
        rcases hb with hb | hb
        · exact absurd rfl hb.1
        · cases hb
    let GN : Nat → GI := fun j => if hj : j < E.sz c ∧ E.sub c j = true then (new j hj.1 hj.2).choose_spec.choose_spec.choose_spec.choose else ⟨0, 0, 0, 0, fun _ => false⟩
    have newG : ∀ j, j < E.sz c → E.sub c j = true → ∃ d ys v, (E.enc c x)[j]? = some (.tree d ys) ∧ us[j]? = some v ∧ SliceAt (GN j) 0 (GN j).L v ∧ DR E M w d (ys.map some) (GN j) ∧
        ∀ b, Own (GN j) b → ∃ n, m j = some n ∧ n ≠ nm ∧ o n = some (objOf E d ys) ∧ claim φ n (objOf E d ys) b 0 := by
      intro j h1 h2
      have e : GN j = (new j h1 h2).choose_spec.choose_spec.choose_spec.choose := dif_pos ⟨h1, h2⟩
      rw [e]
      exact ⟨_, _, _, (new j h1 h2).choose_spec.choose_spec.choose_spec.choose_spec⟩
    let G' : Nat → Nat → GI := fun i' j => if i' = i then GN j else G i' j
    have Gi : ∀ j, G' i j = GN j := fun j => if_pos rfl
    have Gn : ∀ i' j, i' ≠ i → G' i' j = G i' j := fun i' j h1 => if_neg h1
    have hset : ∀ i' j, Inner E c (xs.set i (some x)) i' j → j < E.sz c ∧ E.sub c j = true ∧ (i' = i ∨ (i' ≠ i ∧ Inner E c xs i' j)) := by
      rintro i' j ⟨y, hy, h1, h2⟩
      refine ⟨h1, h2, ?_⟩
      by_cases e : i' = i
      · exact .inl e
      · rw [List.getElem?_set_ne (Ne.symm e)] at hy
        exact .inr ⟨e, y, hy, h1, h2⟩
    have back : ∀ {i' : Nat} {y : S.El c}, (xs.set i (some x))[i']? = some (some y) → (i' = i ∧ y = x) ∨ (i' ≠ i ∧ xs[i']? = some (some y)) := fun {i' y} hy => by
      by_cases e : i' = i
      · subst e
        rw [List.getElem?_set_self hi] at hy; cases hy
        exact .inl ⟨rfl, rfl⟩
      · rw [List.getElem?_set_ne (Ne.symm e)] at hy
        exact .inr ⟨e, hy⟩
    let F' : Nat → Bool := fun b => decide (∃ i' j, Inner E c (xs.set i (some x)) i' j ∧ Own (G' i' j) b)
    have hF' : ∀ b, F' b = true ↔ ∃ i' j, Inner E c (xs.set i (some x)) i' j ∧ Own (G' i' j) b := fun b => decide_eq_true_iff
    -- whose a block within is
    have whose : ∀ i' j b, Inner E c (xs.set i (some x)) i' j → Own (G' i' j) b → (i' = i ∧ ∃ n y, m j = some n ∧ n ≠ nm ∧ o n = some y ∧ claim φ n y b 0) ∨ (i' ≠ i ∧ Inner E c xs i' j ∧ Own (G i' j) b ∧ Own g b) := by
      intro i' j b h1 h2
      obtain ⟨h3, h4, rfl | ⟨h5, h6⟩⟩ := hset i' j h1
      · rw [Gi] at h2
        obtain ⟨d, ys, v, _, _, _, _, k⟩ := newG j h3 h4
        obtain ⟨n, k1, k2, k3, k4⟩ := k b h2
        exact .inl ⟨rfl, n, _, k1, k2, k3, k4⟩
      · rw [Gn _ _ h5] at h2
        exact .inr ⟨h5, h6, h2, .inr ((hF b).2 ⟨i', j, h6, h2⟩)⟩
    let φ' : Phi := setF φ nm (some { g with F := F' })
    have φ1 : φ' nm = some { g with F := F' } := setF_self _ _ _
    have φ2 : ∀ n, n ≠ nm → φ' n = φ n := fun n hn => setF_ne _ _ hn
    have hle' : φ.le φ' := by
      intro n g1 h1
      by_cases e : n = nm
      · subst e; rw [hg] at h1; cases h1; exact ⟨F', φ1⟩
      · exact ⟨g1.F, by rw [φ2 n e]; exact h1⟩
    have keep : ∀ {d : S.K} {zs : List (Option (S.El d))} {g1 : GI}, DR E M w d zs g1 → ¬ Own g1 g.b → DR E M (writeCells w g.b (i * g.s) us) d zs g1 := fun hdr hno =>
      hdr.mono hE (Mem.le_refl _) fun b hb => writeCells_heap us w g.b (i * g.s) b (fun e => hno (e ▸ hb))
    have outN : ∀ j, j < E.sz c → E.sub c j = true → ¬ Own (GN j) g.b := fun j h1 h2 hb => by
      obtain ⟨d, ys, v, _, _, _, _, k⟩ := newG j h1 h2
      obtain ⟨n, _, k2, k3, k4⟩ := k g.b hb
      exact k2 (h.sep n nm _ _ g.b 0 0 k3 hs k4 hclb)
    have other : ∀ i' j, i' < xs.length → i' ≠ i → j < E.sz c → ∀ u, w.cell? (at_ g.b (i' * g.s + j)) = some u → (writeCells w g.b (i * g.s) us).cell? (at_ g.b (i' * g.s + j)) = some u := by
      intro i' j h1 h2 h3 u hu
      rcases Nat.lt_or_gt_of_ne h2 with h4 | h4
      · have : (i' + 1) * g.s ≤ i * g.s := Nat.mul_le_mul_right _ h4
        rw [Nat.succ_mul] at this
        rw [writeCells_below us w g.b (i * g.s) _ (by omega)]; exact hu
      · have : (i + 1) * g.s ≤ i' * g.s := Nat.mul_le_mul_right _ h4
        rw [Nat.succ_mul] at this
        rw [writeCells_above us w g.b (i * g.s) _ (by omega)]; exact hu
    have hDR : DR E M (writeCells w g.b (i * g.s) us) c (xs.set i (some x)) { g with F := F' } := by
      refine .mk (fun i' j => if i' = i then (us[j]?).getD undef else vs i' j) G' (by simpa using hL) hsz hle (fun j hj => live_write hlw (live j hj)) (fun i' y j tv hy hj => ?_) (fun i' y j tv hy hj h0 => ?_) (fun i' j hin => ?_)
        (fun i' y j d ys hy hj h1 => ?_) (fun i1 j1 i2 j2 b k1 k2 k3 k4 => ?_) (fun i' j hin h0 hb => ?_) hF'
      · have hjs := enc_lt hE hj
        rcases back hy with ⟨rfl, rfl⟩ | ⟨h1, h2⟩
        · obtain ⟨v, hv⟩ : ∃ v, us[j]? = some v := ⟨_, List.getElem?_eq_getElem (by omega)⟩
          rw [if_pos rfl, hv]
          exact writeCells_at us w g.b (i' * g.s) (fun q hq => (hlw q hq).1) j v hv
        · rw [if_neg h1]
          exact other i' j (List.getElem?_eq_some_iff.1 h2).1 h1 hjs _ (cell i' y j tv h2 hj)
      · have hjs := enc_lt hE hj
        rcases back hy with ⟨rfl, rfl⟩ | ⟨h1, h2⟩
        · obtain ⟨v, hv⟩ : ∃ v, us[j]? = some v := ⟨_, List.getElem?_eq_getElem (by omega)⟩
          rw [if_pos rfl, hv]
          exact hval j tv v h0 hj hv
        · rw [if_neg h1]; exact val i' y j tv h2 hj h0
      · obtain ⟨h1, h2, rfl | ⟨h3, h4⟩⟩ := hset i' j hin
        · rw [Gi, if_pos rfl]
          obtain ⟨d, ys, v, _, k2, k3, _⟩ := newG j h1 h2
          rw [k2]; exact k3
        · rw [Gn _ _ h3, if_neg h3]; exact hsl i' j h4
      · have hjs := enc_lt hE hj
        rcases back hy with ⟨rfl, rfl⟩ | ⟨h3, h4⟩
        · rw [Gi]
          obtain ⟨d', ys', v, k1, _, _, k4, _⟩ := newG j hjs h1
          rw [hj] at k1; cases k1
          exact keep k4 (outN j hjs h1)
        · rw [Gn _ _ h3]
          exact keep (sub i' y j d ys h4 hj h1) (out i' j ⟨y, h4, hjs, h1⟩ hn0)
      · rcases whose i1 j1 b k1 k3 with ⟨rfl, n1, y1, p1, p2, p3, p4⟩ | ⟨p1, p2, p3, p4⟩ <;> rcases whose i2 j2 b k2 k4 with ⟨q0, n2, y2, q1, q2, q3, q4⟩ | ⟨q1, q2, q3, q4⟩
        · have := h.sep n1 n2 _ _ b 0 0 p3 q3 p4 q4
          subst this
          exact ⟨q0.symm, hinj j1 j2 n1 p1 q1⟩
        · exact absurd (h.sep n1 nm _ _ b 0 0 p3 hs p4 (hcl b q4)) p2
        · exact absurd (h.sep n2 nm _ _ b 0 0 q3 hs q4 (hcl b p4)) q2
        · exact dis i1 j1 i2 j2 b p2 q2 p3 q3
      · rcases whose i' j g.b hin hb with ⟨_, n, y, p1, p2, p3, p4⟩ | ⟨_, p2, p3, _⟩
        · exact p2 (h.sep n nm _ _ g.b 0 0 p3 hs p4 hclb)
        · exact out i' j p2 hn0 p3
    refine ⟨φ', hle', ?_⟩
    obtain ⟨e1, e2, e3⟩ := writeCells_os us w g.b (i * g.s)
    refine h.step2 (hdr := Nat.le_of_eq (writeCells_drawn us w _ _).symm) hE (fun n => n = nm ∨ ∃ j, m j = some n) (· = g.b) hle' (Mem.le_refl _) (Nat.le_of_eq (writeCells_size us w g.b (i * g.s)).symm) e1 e2 e3 (fun b _ hb => writeCells_heap us w g.b (i * g.s) b hb)
      (fun b hb => ⟨nm, _, 0, .inl rfl, hs, by subst hb; exact hclb, fun k hk => absurd hk (by omega)⟩) (fun b off hd => absurd rfl hd) (fun b off v h1 h2 => by rw [h1] at h2; cases h2) (fun n hn => ?_) (fun n y hn hy => ?_) (fun n hn hy => ?_) (fun n y b f hn hy hc => ?_) (fun n1 n2 y1 y2 b f1 f2 hn1 hn2 hy1 hy2 hc1 hc2 => ?_) (fun n hn => ?_)
    · exact ⟨ho3 n (fun e => hn (.inl e)) fun j e => hn (.inr ⟨j, e⟩), φ2 n fun e => hn (.inl e)⟩
    · by_cases e : n = nm
      · subst e
        rw [ho1] at hy; cases hy
        exact ⟨_, φ1, by rw [hdx']; exact hDR⟩
      · obtain ⟨j, hj⟩ := hn.resolve_left e
        rw [ho2 j n hj] at hy; cases hy
        trivial
    · by_cases e : n = nm
      · subst e; rw [ho1] at hy; cases hy
      · obtain ⟨j, hj⟩ := hn.resolve_left e
        rw [ho2 j n hj] at hy; cases hy
    · by_cases e : n = nm
      · subst e
        rw [ho1] at hy; cases hy
        obtain ⟨k1, rfl⟩ := claim_gi φ1 hc
        rcases k1 with ⟨_, rfl⟩ | k1
        · exact ⟨by rw [writeCells_size]; exact h.csz _ _ _ _ hs hclb, .inr ⟨n, _, 0, .inl rfl, hs, hclb⟩, fun off hf => h.mdis _ _ _ _ off hs hclb hf⟩
        · obtain ⟨i', j, p1, p2⟩ := (hF' b).1 k1
          rcases whose i' j b p1 p2 with ⟨_, n2, y2, q1, q2, q3, q4⟩ | ⟨_, _, _, q4⟩
          · exact ⟨by rw [writeCells_size]; exact h.csz _ _ _ _ q3 q4, .inr ⟨n2, _, 0, .inr ⟨j, q1⟩, q3, q4⟩, fun off hf => h.mdis _ _ _ _ off q3 q4 hf⟩
          · exact ⟨by rw [writeCells_size]; exact h.csz _ _ _ _ hs (hcl b q4), .inr ⟨n, _, 0, .inl rfl, hs, hcl b q4⟩, fun off hf => h.mdis _ _ _ _ off hs (hcl b q4) hf⟩
      · obtain ⟨j, hj⟩ := hn.resolve_left e
        rw [ho2 j n hj] at hy; cases hy
        exact absurd hc claim_gone
    · have only : ∀ n y f, (n = nm ∨ ∃ j, m j = some n) → o' n = some y → claim φ' n y b f → n = nm := fun n y f hn hy hc => by
        by_cases e : n = nm
        · exact e
        · obtain ⟨j, hj⟩ := hn.resolve_left e
          rw [ho2 j n hj] at hy; cases hy
          exact absurd hc claim_gone
      rw [only n1 y1 f1 hn1 hy1 hc1, only n2 y2 f2 hn2 hy2 hc2]
    · by_cases e : n = nm
      · subst e; rw [φ1, hg]; rfl
      · rw [φ2 n e]
theorem inner_app {c : S.K} {xs : List (Option (S.El c))} {k i j : Nat} : Inner E c (xs ++ List.replicate k none) i j ↔ Inner E c xs i j := by
  have key : ∀ y : S.El c, (xs ++ List.replicate k none)[i]? = some (some y) ↔ xs[i]? = some (some y) := fun y => by
    by_cases hi : i < xs.length
    · rw [List.getElem?_append_left hi]
    · have h0 : xs[i]? = none := List.getElem?_eq_none_iff.2 (by omega)
      rw [List.getElem?_append_right (by omega), h0, List.getElem?_replicate]
      split <;> simp
  unfold Inner
  simp only [key]
theorem get_app {c : S.K} {xs : List (Option (S.El c))} {k i : Nat} {y : S.El c} (h : (xs ++ List.replicate k none)[i]? = some (some y)) : xs[i]? = some (some y) := by
  by_cases hi : i < xs.length
  · rwa [List.getElem?_append_left hi] at h
  · rw [List.getElem?_append_right (by omega), List.getElem?_replicate] at h
    split at h <;> simp at h
/-- A deep row under a new name, with room for more elements. -/
theorem RelW.growHole (hE : EncOk E) (h : RelW E B o w φ M) {nm nm' : Nat} {c : S.K} {xs : List (Option (S.El c))} {dx dx' : DX (S.El c)} {g : GI} (hg : φ nm = some g) (hs : o nm = some (.deep c dx)) (hdx : dx.get = xs) (hn : o nm' = none) (hB : B.m ≤ nm') (k : Nat) (hdx' : dx'.get = xs ++ List.replicate k none) (hfit : (xs.length + k) * E.sz c ≤ g.n) :
    φ.le (setF φ nm' (some { g with L := xs.length + k })) ∧ RelW E B (setF (setF o nm (some .gone)) nm' (some (.deep c dx'))) w (setF φ nm' (some { g with L := xs.length + k })) M := by
  obtain ⟨g0, hg0, hd⟩ := h.objs nm _ hs
  rw [hg] at hg0; cases hg0
  rw [hdx] at hd
  have hne : nm' ≠ nm := by intro e; subst e; rw [hn] at hs; cases hs
  have hφ : φ.le (setF φ nm' (some { g with L := xs.length + k })) := Phi.le_of <| by
    intro n1 g1 h1
    by_cases e : n1 = nm'
    · subst e; rw [h.fresh n1 hn] at h1; cases h1
    · rw [setF_ne _ _ e]; exact h1
  have hcl : ∀ b, Own g b → claim φ nm (.deep c dx) b 0 := fun b hb => ⟨g, hg, hb, rfl⟩
  have hcl' : ∀ b f, claim (setF φ nm' (some { g with L := xs.length + k })) nm' (.deep c dx' : Obj S) b f → Own g b ∧ f = 0 := fun b f q => by
    have := claim_gi (setF_self _ _ _) q
    exact this
  refine ⟨hφ, h.step hE (fun n => n = nm ∨ n = nm') (fun _ => False) hφ (Mem.le_refl _) (Nat.le_refl _) rfl rfl rfl (fun _ _ _ => rfl) (fun b hb => hb.elim) (fun b off hd => absurd rfl hd)
    (fun b off v h1 h2 => by rw [h1] at h2; cases h2) (fun n1 hn1 => ?_) ?_ ?_ ?_ ?_ (fun n1 hn1 => setF_ne _ _ (by omega))⟩
  · have a1 : n1 ≠ nm := fun e => hn1 (.inl e)
    have a2 : n1 ≠ nm' := fun e => hn1 (.inr e)
    exact ⟨by rw [setF_ne _ _ a2, setF_ne _ _ a1], setF_ne _ _ a2⟩
  · rintro n1 y hc hy
    rcases hc with rfl | rfl
    · rw [setF_ne _ _ (Ne.symm hne), setF_self] at hy; cases hy
      trivial
    · rw [setF_self] at hy; cases hy
      refine ⟨_, setF_self _ _ _, ?_⟩
      rw [hdx']
      cases hd with
      | mk vs G hL hsz hle live cell val hsl sub dis out hF =>
        exact .mk vs G (by simp) hsz (by simp only [hsz]; exact hfit) live (fun i x j tv hx hj => cell i x j tv (get_app hx) hj) (fun i x j tv hx hj h0 => val i x j tv (get_app hx) hj h0) (fun i j hi => hsl i j (inner_app.1 hi))
          (fun i x j d ys hx hj h1 => sub i x j d ys (get_app hx) hj h1) (fun i j i' j' b k1 k2 => dis i j i' j' b (inner_app.1 k1) (inner_app.1 k2)) (fun i j hi => out i j (inner_app.1 hi)) (fun b => by simp only [inner_app]; exact hF b)
  · rintro n1 hc hy
    rcases hc with rfl | rfl
    · rw [setF_ne _ _ (Ne.symm hne), setF_self] at hy; cases hy
    · rw [setF_self] at hy; cases hy
  · rintro n1 y b f hc hy q
    rcases hc with rfl | rfl
    · rw [setF_ne _ _ (Ne.symm hne), setF_self] at hy; cases hy
      exact absurd q claim_gone
    · rw [setF_self] at hy; cases hy
      obtain ⟨k1, rfl⟩ := hcl' b f q
      exact ⟨h.csz nm _ b 0 hs (hcl b k1), .inr ⟨nm, _, 0, .inl rfl, hs, hcl b k1⟩, fun off hf => h.mdis nm _ b 0 off hs (hcl b k1) hf⟩
  · rintro n1 n2 x1 x2 b f f' hc1 hc2 hy1 hy2 q1 q2
    rcases hc1 with rfl | rfl <;> rcases hc2 with rfl | rfl
    · rfl
    · rw [setF_ne _ _ (Ne.symm hne), setF_self] at hy1; cases hy1; exact absurd q1 claim_gone
    · rw [setF_ne _ _ (Ne.symm hne), setF_self] at hy2; cases hy2; exact absurd q2 claim_gone
    · rfl
/-- A deep row in a new block, with room for more elements. -/
theorem RelW.moveDeep (hE : EncOk E) (h : RelW E B o w φ M) {nm nm' : Nat} {c : S.K} {xs : List (Option (S.El c))} {dx dx' : DX (S.El c)} {g : GI} (hg : φ nm = some g) (hs : o nm = some (.deep c dx)) (hdx : dx.get = xs) (hn : o nm' = none) (hB : B.m ≤ nm') (k : Nat) (hdx' : dx'.get = xs ++ List.replicate k none) {vs : Array Value} {e : TypeId} (hfit : (xs.length + k) * E.sz c ≤ vs.size)
    (hv : ∀ i x j tv, xs[i]? = some (some x) → (E.enc c x)[j]? = some tv → vs[i * E.sz c + j]? = w.cell? (at_ g.b (i * g.s + j))) (hlive : ∀ j, j < vs.size → Live (w.alloc (.cells vs e)) w.heap.size j) :
    φ.le (setF φ nm' (some ⟨w.heap.size, E.sz c, xs.length + k, vs.size, g.F⟩)) ∧ RelW E B (setF (setF o nm (some .gone)) nm' (some (.deep c dx'))) (w.alloc (.cells vs e)) (setF φ nm' (some ⟨w.heap.size, E.sz c, xs.length + k, vs.size, g.F⟩)) M := by
  obtain ⟨g0, hg0, hd⟩ := h.objs nm _ hs
  rw [hg] at hg0; cases hg0
  rw [hdx] at hd
  have hne : nm' ≠ nm := by intro e; subst e; rw [hn] at hs; cases hs
  have hφ : φ.le (setF φ nm' (some ⟨w.heap.size, E.sz c, xs.length + k, vs.size, g.F⟩)) := Phi.le_of <| by
    intro n1 g1 h1
    by_cases e : n1 = nm'
    · subst e; rw [h.fresh n1 hn] at h1; cases h1
    · rw [setF_ne _ _ e]; exact h1
  have hcl : ∀ b, Own g b → claim φ nm (.deep c dx) b 0 := fun b hb => ⟨g, hg, hb, rfl⟩
  have hnone : ∀ off, M w.heap.size off = none := by
    intro off
    cases hm : M w.heap.size off with
    | none => rfl
    | some v => have := size_of_cell (h.mval _ _ _ hm); omega
  have hcl' : ∀ b f, claim (setF φ nm' (some ⟨w.heap.size, E.sz c, xs.length + k, vs.size, g.F⟩)) nm' (.deep c dx' : Obj S) b f → (b = w.heap.size ∨ (Own g b ∧ b < w.heap.size)) ∧ f = 0 := fun b f q => by
    obtain ⟨k1, k2⟩ := claim_gi (setF_self _ _ _) q
    refine ⟨?_, k2⟩
    rcases k1 with k1 | k1
    · exact .inl k1.2
    · exact .inr ⟨.inr k1, h.csz nm _ b 0 hs (hcl b (.inr k1))⟩
  refine ⟨hφ, h.step hE (fun n => n = nm ∨ n = nm') (fun _ => False) hφ (Mem.le_refl _) (by simp) rfl rfl rfl (fun b hb _ => heap_alloc w _ b hb) (fun b hb => hb.elim) (fun b off hd => absurd rfl hd)
    (fun b off v h1 h2 => by rw [h1] at h2; cases h2) (fun n1 hn1 => ?_) ?_ ?_ ?_ ?_ (fun n1 hn1 => setF_ne _ _ (by omega))⟩
  · have a1 : n1 ≠ nm := fun e => hn1 (.inl e)
    have a2 : n1 ≠ nm' := fun e => hn1 (.inr e)
    exact ⟨by rw [setF_ne _ _ a2, setF_ne _ _ a1], setF_ne _ _ a2⟩
  · rintro n1 y hc hy
    rcases hc with rfl | rfl
    · rw [setF_ne _ _ (Ne.symm hne), setF_self] at hy; cases hy
      trivial
    · rw [setF_self] at hy; cases hy
      refine ⟨_, setF_self _ _ _, ?_⟩
      rw [hdx']
      cases hd with
      | mk vs' G hL hsz hle live cell val hsl sub dis out hF =>
        have lt : ∀ i j b, Inner E c xs i j → Own (G i j) b → b < w.heap.size := fun i j b h1 h2 => h.csz nm _ b 0 hs (hcl b (.inr ((hF b).2 ⟨i, j, h1, h2⟩)))
        refine .mk vs' G (by simp) rfl (by simpa using hfit) hlive (fun i x j tv hx hj => ?_) (fun i x j tv hx hj h0 => val i x j tv (get_app hx) hj h0) (fun i j hi => hsl i j (inner_app.1 hi))
          (fun i x j d ys hx hj h1 => (sub i x j d ys (get_app hx) hj h1).mono hE (Mem.le_refl _) fun b hb => heap_alloc w _ b (lt i j b ⟨x, get_app hx, enc_lt hE hj, h1⟩ hb)) (fun i j i' j' b k1 k2 => dis i j i' j' b (inner_app.1 k1) (inner_app.1 k2)) (fun i j hi _ hb => ?_) (fun b => by simp only [inner_app]; exact hF b)
        · rw [at_, World.cell?_alloc_new]
          rw [hv i x j tv (get_app hx) hj]
          exact cell i x j tv (get_app hx) hj
        · have := lt i j _ (inner_app.1 hi) hb
          simp only at this; omega
  · rintro n1 hc hy
    rcases hc with rfl | rfl
    · rw [setF_ne _ _ (Ne.symm hne), setF_self] at hy; cases hy
    · rw [setF_self] at hy; cases hy
  · rintro n1 y b f hc hy q
    rcases hc with rfl | rfl
    · rw [setF_ne _ _ (Ne.symm hne), setF_self] at hy; cases hy
      exact absurd q claim_gone
    · rw [setF_self] at hy; cases hy
      obtain ⟨rfl | ⟨k1, k2⟩, rfl⟩ := hcl' b f q
      · exact ⟨by simp, .inl (Nat.le_refl _), fun off _ => hnone off⟩
      · exact ⟨by simp; omega, .inr ⟨nm, _, 0, .inl rfl, hs, hcl b k1⟩, fun off hf => h.mdis nm _ b 0 off hs (hcl b k1) hf⟩
  · rintro n1 n2 x1 x2 b f f' hc1 hc2 hy1 hy2 q1 q2
    rcases hc1 with rfl | rfl <;> rcases hc2 with rfl | rfl
    · rfl
    · rw [setF_ne _ _ (Ne.symm hne), setF_self] at hy1; cases hy1; exact absurd q1 claim_gone
    · rw [setF_ne _ _ (Ne.symm hne), setF_self] at hy2; cases hy2; exact absurd q2 claim_gone
    · rfl
/-- What is there already may be written once more. -/
theorem setCell_same {w : World} {b off : Nat} {v : Value} (h : w.cell? (at_ b off) = some v) : w.setCell (at_ b off) v = w := by
  have e : (w.setCell (at_ b off) v).heap = w.heap := by
    apply Array.ext_getElem?
    intro i
    by_cases hi : i = b
    · subst hi
      simp only [World.cell?, at_] at h
      simp only [World.setCell, at_, Array.getElem?_modify, if_true]
      cases hb : w.heap[i]? with
      | none => rfl
      | some o =>
        rw [hb] at h
        cases o with
        | cells c e z =>
          simp only [Option.isSome_none, Bool.false_eq_true, if_false] at h
          obtain ⟨h1, h2⟩ := Array.getElem?_eq_some_iff.1 h
          show some (Go.Obj.cells (c.setIfInBounds off v) e z) = some (Go.Obj.cells c e z)
          congr 2
          apply Array.ext_getElem?
          intro q
          simp only [Array.getElem?_setIfInBounds]
          split
          · rename_i hq; subst hq; exact h.symm
          · rfl
        | _ => cases h
    · exact heap_setCell w (at_ b off) v i hi
  show { w with heap := (w.setCell (at_ b off) v).heap } = w
  rw [e]
theorem writeCells_same : ∀ (us : List Value) {w : World} {b off : Nat}, (∀ (j : Nat) (v : Value), us[j]? = some v → w.cell? (at_ b (off + j)) = some v) → writeCells w b off us = w
  | [], _, _, _, _ => rfl
  | v :: r, w, b, off, h => by
    show writeCells (w.setCell (at_ b off) v) b (off + 1) r = w
    rw [setCell_same (w := w) (b := b) (off := off) (h 0 v rfl)]
    exact writeCells_same r fun j u hj => by
      have := h (j + 1) u (by simpa using hj)
      rwa [show off + (j + 1) = off + 1 + j by omega] at this
end TE
