/- TE: operations on deep rows. -/
import Derived.Test.YtkhkbikglgpkoaaGreatTE13
import Derived.Test.YtkhkbikglgpkoaaGreatTEX
namespace TE
open Go
variable {S : Sig} {E : Env S}

/-! ### cells that go in -/
theorem takeV_sub {o : Nat → Option (Obj S)} {c : S.K} {j : Nat} {v p : TV S} {l : List Nat} (h : takeV E o c j v = some (p, l)) (hs : E.sub c j = true) :
    (v = .nils ∧ p = .nils ∧ l = []) ∨ ∃ n d ys, v = .slw n ∧ p = .tree d ys ∧ l = [n] ∧ o n = some (objOf E d ys) := by
  unfold takeV at h
  rw [if_pos hs] at h
  split at h
  · cases h; exact .inl ⟨rfl, rfl, rfl⟩
  · rename_i n
    split at h
    · rename_i d ys ho
      split at h
      · rename_i hd
        cases h
        exact .inr ⟨n, d, ys, rfl, rfl, rfl, by rw [ho]; unfold objOf; rw [if_pos hd]⟩
      · cases h
    · rename_i d ys ho
      split at h
      · cases h
      · rename_i hd
        cases h
        exact .inr ⟨n, d, ys, rfl, rfl, rfl, by rw [ho]; unfold objOf; rw [if_neg hd]⟩
    · cases h
  · cases h
theorem takeV_pure {o : Nat → Option (Obj S)} {c : S.K} {j : Nat} {v p : TV S} {l : List Nat} (h : takeV E o c j v = some (p, l)) (hs : E.sub c j = false) : pureOf o v = some p ∧ l = [] := by
  unfold takeV at h
  rw [if_neg (by simp [hs])] at h
  cases hp : pureOf o v with
  | none => rw [hp] at h; cases h
  | some q => rw [hp] at h; cases h; exact ⟨rfl, rfl⟩
theorem takeIn_spec {o : Nat → Option (Obj S)} {c : S.K} : ∀ {cs : List (TV S)} {j0 : Nat} {ps : List (TV S)} {ns : List Nat}, takeIn E o c j0 cs = some (ps, ns) →
    (∀ i v, cs[i]? = some v → ∃ p l, ps[i]? = some p ∧ takeV E o c (j0 + i) v = some (p, l) ∧ ∀ n ∈ l, n ∈ ns) ∧
    (∀ n ∈ ns, ∃ i v p, cs[i]? = some v ∧ takeV E o c (j0 + i) v = some (p, [n])) ∧
    (ns.Nodup → ∀ i i' n, cs[i]? = some (.slw n) → cs[i']? = some (.slw n) → E.sub c (j0 + i) = true → E.sub c (j0 + i') = true → i = i')
  | [], j0, ps, ns, h => by
    unfold takeIn at h; cases h
    exact ⟨fun i v h => by simp at h, fun n h => by simp at h, fun _ i i' n h => by simp at h⟩
  | v :: r, j0, ps, ns, h => by
    unfold takeIn at h
    split at h
    · rename_i p ns1 ps2 ns2 h1 h2
      cases h
      obtain ⟨a1, a2, a3⟩ := takeIn_spec h2
      have one : ∀ n, v = .slw n → E.sub c j0 = true → n ∈ ns1 := fun n hv hs => by
        rcases takeV_sub h1 hs with ⟨rfl, _⟩ | ⟨n', d, ys, rfl, rfl, rfl, _⟩
        · cases hv
        · cases hv; simp
      have rest : ∀ i n, r[i]? = some (.slw n) → E.sub c (j0 + 1 + i) = true → n ∈ ns2 := fun i n hv hs => by
        obtain ⟨p', l', _, k2, k3⟩ := a1 i _ hv
        rcases takeV_sub k2 hs with ⟨hn, _⟩ | ⟨n', d, ys, hn, rfl, rfl, _⟩
        · cases hn
        · cases hn; exact k3 _ (by simp)
      refine ⟨fun i u hu => ?_, fun n hn => ?_, fun hnd i i' n hi hi' hs hs' => ?_⟩
      · cases i with
        | zero => simp at hu; subst hu; exact ⟨p, ns1, rfl, h1, fun n hn => List.mem_append_left _ hn⟩
        | succ i =>
          obtain ⟨p', l', k1, k2, k3⟩ := a1 i u (by simpa using hu)
          exact ⟨p', l', by simpa using k1, by rw [show j0 + (i + 1) = j0 + 1 + i by omega]; exact k2, fun n hn => List.mem_append_right _ (k3 n hn)⟩
      · rcases List.mem_append.1 hn with hn | hn
        · have hs : E.sub c j0 = true := by
            cases hs : E.sub c j0 with
            | true => rfl
            | false => have := (takeV_pure h1 hs).2; rw [this] at hn; cases hn
          rcases takeV_sub h1 hs with ⟨_, _, rfl⟩ | ⟨n', d, ys, rfl, rfl, rfl, _⟩
          · cases hn
          · simp at hn; subst hn
            exact ⟨0, _, _, rfl, h1⟩
        · obtain ⟨i, u, p', k1, k2⟩ := a2 n hn
          exact ⟨i + 1, u, p', by simpa using k1, by rw [show j0 + (i + 1) = j0 + 1 + i by omega]; exact k2⟩
      · have nd := List.nodup_append.1 hnd
        cases i with
        | zero =>
          cases i' with
          | zero => rfl
          | succ i' =>
            simp at hi hi'
            exact absurd rfl (nd.2.2 n (one n hi hs) n (rest i' n hi' (by rw [show j0 + 1 + i' = j0 + (i' + 1) by omega]; exact hs')))
        | succ i =>
          cases i' with
          | zero =>
            simp at hi hi'
            exact absurd rfl (nd.2.2 n (one n hi' hs') n (rest i n hi (by rw [show j0 + 1 + i = j0 + (i + 1) by omega]; exact hs)))
          | succ i' =>
            simp at hi hi'
            rw [a3 nd.2.1 i i' n hi hi' (by rw [show j0 + 1 + i = j0 + (i + 1) by omega]; exact hs) (by rw [show j0 + 1 + i' = j0 + (i' + 1) by omega]; exact hs')]
    · cases h
theorem frozenIn_mem {c : S.K} {n : Nat} : ∀ {cs : List (TV S)} {j0 : Nat}, n ∈ frozenIn E c j0 cs ↔ ∃ i v, cs[i]? = some v ∧ E.sub c (j0 + i) = false ∧ n ∈ rowName v
  | [], j0 => by simp [frozenIn]
  | v :: r, j0 => by
    unfold frozenIn
    have ih := fun j0 => frozenIn_mem (c := c) (n := n) (cs := r) (j0 := j0)
    constructor
    · intro h
      split at h
      · obtain ⟨i, u, h1, h2, h3⟩ := (ih _).1 h
        exact ⟨i + 1, u, by simpa using h1, by rw [show j0 + (i + 1) = j0 + 1 + i by omega]; exact h2, h3⟩
      · rename_i hs
        rcases List.mem_append.1 h with h | h
        · exact ⟨0, v, rfl, by simpa using hs, h⟩
        · obtain ⟨i, u, h1, h2, h3⟩ := (ih _).1 h
          exact ⟨i + 1, u, by simpa using h1, by rw [show j0 + (i + 1) = j0 + 1 + i by omega]; exact h2, h3⟩
    · rintro ⟨i, u, h1, h2, h3⟩
      cases i with
      | zero =>
        simp at h1; subst h1
        rw [if_neg (by simpa using h2)]
        exact List.mem_append_left _ h3
      | succ i =>
        have := (ih (j0 + 1)).2 ⟨i, u, by simpa using h1, by rw [show j0 + 1 + i = j0 + (i + 1) by omega]; exact h2, h3⟩
        split
        · exact this
        · exact List.mem_append_right _ this
theorem frozenIn_flat {c : S.K} {n : Nat} {cs : List (TV S)} (h : n ∈ frozenIn E c 0 cs) : n ∈ cs.flatMap rowName := by
  obtain ⟨i, v, h1, _, h3⟩ := frozenIn_mem.1 h
  exact List.mem_flatMap.2 ⟨v, List.mem_of_getElem? h1, h3⟩
theorem apartN_spec {nm : Nat} {ns fs : List Nat} (h : apartN nm ns fs = true) : nm ∉ ns ∧ nm ∉ fs ∧ (∀ n ∈ ns, n ∉ fs) ∧ ns.Nodup := by
  simp only [apartN, Bool.and_eq_true, decide_eq_true_eq, Bool.not_eq_true', List.all_eq_true] at h
  obtain ⟨⟨⟨h1, h2⟩, h3⟩, h4⟩ := h
  exact ⟨fun hc => by simp [hc] at h1, fun hc => by simp [hc] at h2, fun n hn hc => by have := h3 n hn; simp [hc] at this, h4⟩

theorem setAll_gone {ns : List Nat} {n : Nat} (hn : n ∈ ns) (f : Nat → Option (Obj S)) : setAll f (ns.map fun n => (n, .gone)) n = some .gone := by
  obtain ⟨x, h1, h2⟩ := setAll_mem (ns.map fun n => (n, (.gone : Obj S))) f (n := n) (by simp [hn])
  obtain ⟨n', _, e⟩ := List.mem_map.1 h1
  cases e; exact h2
/-- **An element goes into a deep row**: what lies in its cells already, or is written there. -/
theorem close_rel (hE : EnvOk E) {B : Base} {ob ob' : Nat → Option (Obj S)} {w : World} {φ : Phi} {M : Mem} (h : RelW E B ob' w φ M) {nm i : Nat} {c : S.K} {dx dx' : DX (S.El c)} {cs ps : List (TV S)} {ns : List Nat} {z : S.El c} {g : GI} {us : List Value}
    (hag : ∀ n ∈ cs.flatMap rowName, ob' n = ob n) (hs : ob' nm = some (.deep c dx)) (hi : i < dx.get.length) (hdx' : dx'.get = dx.get.set i (some z))
    (ht : takeIn E ob c 0 cs = some (ps, ns)) (h1 : ∀ n ∈ ns, n ≠ nm ∧ n ∉ frozenIn E c 0 cs) (h2 : ∀ p ∈ freezes ob (frozenIn E c 0 cs), p.1 ≠ nm) (hnd : ns.Nodup)
    (hdec : E.dec c ps = some z) (hcl : cs.length = E.sz c) (hul : us.length = cs.length) (hv : ∀ (j : Nat) (tv : TV S) (u : Value), cs[j]? = some tv → us[j]? = some u → VR E φ M tv u) (hg : φ nm = some g) :
    ∃ φ' M', φ.le φ' ∧ M.le M' ∧ RelW E B (setAll ob' (closeWr E ob c cs ns ++ [(nm, .deep c dx')])) (writeCells w g.b (i * g.s) us) φ' M' := by
  obtain ⟨t1, t2, t3⟩ := takeIn_spec ht
  have hfr : ∀ p ∈ freezes ob (frozenIn E c 0 cs), p.1 ∈ cs.flatMap rowName := fun p hp => frozenIn_flat (freezes_mem hp).1
  obtain ⟨M1, hM1, hW1⟩ := h.freezeList hE.toEncOk (freezes ob (frozenIn E c 0 cs)) _ M (fun p hp => by
      obtain ⟨a1, c', xs', a2, a3⟩ := freezes_mem hp
      exact ⟨c', xs', a2, .inl (by rw [hag _ (hfr p hp)]; exact a3)⟩) (fun p hp q hq e => freezes_det p hp q hq e)
  let o1 := setAll ob' (freezes ob (frozenIn E c 0 cs))
  have hs1 : o1 nm = some (.deep c dx) := by
    show setAll ob' _ nm = _
    rw [setAll_not _ _ ?_]
    · exact hs
    · intro hc
      simp only [List.mem_map] at hc
      obtain ⟨p, hp, e⟩ := hc
      exact h2 p hp e
  let m : Nat → Option Nat := fun j => if E.sub c j = true then (match cs[j]? with | some (.slw n) => some n | _ => none) else none
  have hmi : ∀ j n, m j = some n → E.sub c j = true ∧ cs[j]? = some (.slw n) := fun j n hj => by
    simp only [m] at hj
    split at hj
    · rename_i hsub
      split at hj
      · rename_i n' hc
        cases hj; exact ⟨hsub, hc⟩
      · cases hj
    · cases hj
  have hmk : ∀ j n, E.sub c j = true → cs[j]? = some (.slw n) → m j = some n := fun j n hsub hc => by
    simp only [m]; rw [if_pos hsub, hc]
  have hmn : ∀ j n, m j = some n → n ∈ ns := fun j n hj => by
    obtain ⟨hsub, hc⟩ := hmi j n hj
    obtain ⟨p, l, _, k2, k3⟩ := t1 j _ hc
    rw [Nat.zero_add] at k2
    rcases takeV_sub k2 hsub with ⟨e, _⟩ | ⟨n', d, ys, e, _, rfl, _⟩
    · cases e
    · cases e; exact k3 _ (by simp)
  have hnm : ∀ n ∈ ns, ∃ j, m j = some n := fun n hn => by
    obtain ⟨j, v, p, k1, k2⟩ := t2 n hn
    rw [Nat.zero_add] at k2
    cases hsub : E.sub c j with
    | false => have := (takeV_pure k2 hsub).2; cases this
    | true =>
      rcases takeV_sub k2 hsub with ⟨_, _, e⟩ | ⟨n', d, ys, rfl, _, e, _⟩
      · cases e
      · cases e; exact ⟨j, hmk j _ hsub k1⟩
  have ho1 : ∀ n ∈ ns, o1 n = ob' n := fun n hn => setAll_not _ _ (by
    intro hc
    simp only [List.mem_map] at hc
    obtain ⟨p, hp, e⟩ := hc
    exact (h1 n hn).2 (e ▸ (freezes_mem hp).1))
  have hcsn : ∀ (j n : Nat), cs[j]? = some (.slw n : TV S) → ob' n = ob n := fun j n hc => hag n (List.mem_flatMap.2 ⟨_, List.mem_of_getElem? hc, by simp [rowName]⟩)
  have key := hW1.closeDeep hE.toEncOk hE.sub (nm := nm) (dx := dx) (dx' := dx') (xs := dx.get) (i := i) (x := z) hs1 rfl hdx' hi m us (by rw [hul, hcl]) (g := g) hg
    (fun j j' n hj hj' => by
      obtain ⟨a1, a2⟩ := hmi j n hj
      obtain ⟨b1, b2⟩ := hmi j' n hj'
      exact t3 hnd j j' n a2 b2 (by rw [Nat.zero_add]; exact a1) (by rw [Nat.zero_add]; exact b1))
    (fun j d ys v hsub hj hu => by
      have hjc : j < cs.length := by rw [← hul]; exact (List.getElem?_eq_some_iff.1 hu).1
      obtain ⟨tv, htv⟩ : ∃ tv, cs[j]? = some tv := ⟨_, List.getElem?_eq_getElem hjc⟩
      obtain ⟨p, l, k1, k2, k3⟩ := t1 j tv htv
      rw [Nat.zero_add] at k2
      have hvr := hv j tv v htv hu
      rcases takeV_sub k2 hsub with ⟨rfl, rfl, _⟩ | ⟨n, d', ys', rfl, rfl, rfl, hob⟩
      · obtain ⟨d', he⟩ := hE.sub.decN c ps z j hdec hsub k1
        rw [hj] at he; cases he
        refine .inr ⟨?_, rfl, none, 0, hvr.nils, Nat.le_refl _, by simp, .inl rfl⟩
        simp only [m]; rw [if_pos hsub, htv]
      · have he := hE.sub.dec c ps z j d' ys' hdec hsub k1
        rw [hj] at he; cases he
        obtain ⟨gj, hgj, hsl⟩ := hvr.slw_inv
        have hn : n ∈ ns := k3 n (by simp)
        exact .inl ⟨n, gj, hmk j n hsub htv, (h1 n hn).1, (ho1 n hn).trans ((hcsn j n htv).trans hob), hgj, hsl⟩)
    (fun j n hj => by
      obtain ⟨a1, a2⟩ := hmi j n hj
      exact ⟨by rw [← hcl]; exact (List.getElem?_eq_some_iff.1 a2).1, a1⟩)
    (fun j tv v hsub hj hu => by
      have hjc : j < cs.length := by rw [← hul]; exact (List.getElem?_eq_some_iff.1 hu).1
      obtain ⟨tv0, htv⟩ : ∃ tv, cs[j]? = some tv := ⟨_, List.getElem?_eq_getElem hjc⟩
      obtain ⟨p, l, k1, k2, k3⟩ := t1 j tv0 htv
      rw [Nat.zero_add] at k2
      obtain ⟨hp, _⟩ := takeV_pure k2 hsub
      have hcr := pureOf_CR hW1 hp (fun nm' hnm' c' xs' m' hm' => freezes_after (frozenIn_mem.2 ⟨j, tv0, htv, by rw [Nat.zero_add]; exact hsub, hnm'⟩) hm' (hag _ (List.mem_flatMap.2 ⟨tv0, List.mem_of_getElem? htv, hnm'⟩))) hE.toEncOk ((hv j tv0 v htv hu).mono (Phi.le_refl _) hM1)
      obtain ⟨tv', htv', hc'⟩ := hE.dec c ps z M1 j p v hdec k1 hcr
      rw [hj] at htv'; cases htv'
      exact hc')
    (o' := setAll ob' (closeWr E ob c cs ns ++ [(nm, .deep c dx')]))
    (by rw [setAll_append, setAll_one, setF_self])
    (fun j n hj => by
      have hn := hmn j n hj
      rw [setAll_append, setAll_one, setF_ne _ _ (h1 n hn).1]
      unfold closeWr
      rw [setAll_append]
      exact setAll_gone hn _)
    (fun n hn hno => by
      rw [setAll_append, setAll_one, setF_ne _ _ hn]
      unfold closeWr
      rw [setAll_append, setAll_not _ _ ?_]
      intro hc
      simp only [List.map_map, List.mem_map, Function.comp] at hc
      obtain ⟨n', hn', rfl⟩ := hc
      obtain ⟨j, hj⟩ := hnm n' hn'
      exact hno j hj)
  obtain ⟨φ', hφ, hW⟩ := key
  exact ⟨φ', M1, hφ, hM1, hW⟩

/-! ### cells that are taken out -/
/-- How many cells before this one are rows of their own. -/
def cnt (E : Env S) (c : S.K) : Nat → Nat
  | 0 => 0
  | j + 1 => cnt E c j + (if E.sub c j = true then 1 else 0)
theorem cnt_mono {c : S.K} {j j' : Nat} (h : j ≤ j') : cnt E c j ≤ cnt E c j' := by
  induction j' with
  | zero =>
    have : j = 0 := by omega
    subst this; exact Nat.le_refl _
  | succ n ih =>
    rcases Nat.lt_or_ge n j with h1 | h1
    · have : j = n + 1 := by omega
      subst this; exact Nat.le_refl _
    · have := ih h1
      simp only [cnt]; omega
theorem cnt_lt {c : S.K} {j j' : Nat} (h : E.sub c j = true) (h1 : j < j') : cnt E c j < cnt E c j' := by
  have := cnt_mono (E := E) (c := c) (show j + 1 ≤ j' from h1)
  simp only [cnt, h, if_true] at this
  omega
theorem cnt_inj {c : S.K} {j j' : Nat} (h : E.sub c j = true) (h' : E.sub c j' = true) (e : cnt E c j = cnt E c j') : j = j' := by
  rcases Nat.lt_trichotomy j j' with h1 | h1 | h1
  · have := cnt_lt h h1; omega
  · exact h1
  · have := cnt_lt h' h1; omega
theorem openV_get {c : S.K} {b : Nat} : ∀ {cs : List (TV S)} {j0 : Nat} (i : Nat), (openV E c j0 (b + cnt E c j0) cs)[i]? = (cs[i]?).map fun tv => if E.sub c (j0 + i) = true then .slw (b + cnt E c (j0 + i)) else tv
  | [], j0, i => by simp [openV]
  | v :: r, j0, i => by
    unfold openV
    by_cases hs : E.sub c j0 = true
    · rw [if_pos hs, show b + cnt E c j0 + 1 = b + cnt E c (j0 + 1) by simp only [cnt, hs, if_true]; omega]
      cases i with
      | zero => simp [hs]
      | succ i => simp only [List.getElem?_cons_succ]; rw [openV_get i, show j0 + 1 + i = j0 + (i + 1) by omega]
    · rw [if_neg hs, show b + cnt E c j0 = b + cnt E c (j0 + 1) by simp only [cnt]; rw [if_neg hs]; rfl]
      cases i with
      | zero => simp [hs]
      | succ i => simp only [List.getElem?_cons_succ]; rw [openV_get i, show j0 + 1 + i = j0 + (i + 1) by omega]
theorem openO_mem {c : S.K} {b : Nat} {p : Nat × Obj S} : ∀ {cs : List (TV S)} {j0 : Nat}, p ∈ openO E c j0 (b + cnt E c j0) cs ↔ ∃ i tv, cs[i]? = some tv ∧ E.sub c (j0 + i) = true ∧ p = (b + cnt E c (j0 + i), subObj E tv)
  | [], j0 => by simp [openO]
  | v :: r, j0 => by
    have ih := openO_mem (c := c) (b := b) (p := p) (cs := r) (j0 := j0 + 1)
    unfold openO
    constructor
    · intro h
      split at h
      · rename_i hs
        rw [show b + cnt E c j0 + 1 = b + cnt E c (j0 + 1) by simp only [cnt, hs, if_true]; omega] at h
        rcases List.mem_cons.1 h with h | h
        · exact ⟨0, v, rfl, hs, h⟩
        · obtain ⟨i, u, h1, h2, h3⟩ := ih.1 h
          exact ⟨i + 1, u, by simpa using h1, by rw [show j0 + (i + 1) = j0 + 1 + i by omega]; exact h2, by rw [show j0 + (i + 1) = j0 + 1 + i by omega]; exact h3⟩
      · rename_i hs
        rw [show b + cnt E c j0 = b + cnt E c (j0 + 1) by simp only [cnt]; rw [if_neg hs]; rfl] at h
        obtain ⟨i, u, h1, h2, h3⟩ := ih.1 h
        exact ⟨i + 1, u, by simpa using h1, by rw [show j0 + (i + 1) = j0 + 1 + i by omega]; exact h2, by rw [show j0 + (i + 1) = j0 + 1 + i by omega]; exact h3⟩
    · rintro ⟨i, u, h1, h2, h3⟩
      have nxt : ∀ i', i = i' + 1 → p ∈ openO E c (j0 + 1) (b + cnt E c (j0 + 1)) r := fun i' e => by
        subst e
        exact ih.2 ⟨i', u, by simpa using h1, by rw [show j0 + 1 + i' = j0 + (i' + 1) by omega]; exact h2, by rw [show j0 + 1 + i' = j0 + (i' + 1) by omega]; exact h3⟩
      split
      · rename_i hs
        rw [show b + cnt E c j0 + 1 = b + cnt E c (j0 + 1) by simp only [cnt, hs, if_true]; omega]
        cases i with
        | zero => simp at h1; subst h1; subst h3; simp
        | succ i => exact List.mem_cons_of_mem _ (nxt i rfl)
      · rename_i hs
        rw [show b + cnt E c j0 = b + cnt E c (j0 + 1) by simp only [cnt]; rw [if_neg hs]; rfl]
        cases i with
        | zero => exact absurd h2 hs
        | succ i => exact nxt i rfl
theorem openO_len {c : S.K} : ∀ {cs : List (TV S)} {j0 b : Nat}, cnt E c j0 + (openO E c j0 b cs).length = cnt E c (j0 + cs.length)
  | [], j0, b => by simp [openO]
  | v :: r, j0, b => by
    unfold openO
    rw [show j0 + (v :: r).length = j0 + 1 + r.length by simp; omega]
    split
    · rename_i hs
      rw [← openO_len (cs := r) (b := b + 1)]
      simp only [cnt, hs, if_true, List.length_cons]; omega
    · rename_i hs
      rw [← openO_len (cs := r) (b := b)]
      simp only [cnt]; rw [if_neg hs]; rfl
theorem cnt_onto {c : S.K} {n : Nat} : ∀ {j0 : Nat}, cnt E c j0 ≤ n → ∀ {l : Nat}, n < cnt E c (j0 + l) → ∃ i, i < l ∧ E.sub c (j0 + i) = true ∧ cnt E c (j0 + i) = n
  | j0, h, 0, h1 => by rw [Nat.add_zero] at h1; omega
  | j0, h, l + 1, h1 => by
    by_cases h2 : n < cnt E c (j0 + l)
    · obtain ⟨i, a1, a2, a3⟩ := cnt_onto h h2
      exact ⟨i, by omega, a2, a3⟩
    · rw [show j0 + (l + 1) = j0 + l + 1 by omega] at h1
      simp only [cnt] at h1
      by_cases hs : E.sub c (j0 + l) = true
      · rw [if_pos hs] at h1
        exact ⟨l, by omega, hs, by omega⟩
      · rw [if_neg hs] at h1; omega
theorem takeCells_congr {ag : Bool} {n k : Nat} {cs cs' : List (TV S)} (hl : cs'.length = cs.length) (hn : 1 ≤ n) (h : ∀ j, j < n → cs'[k + j]? = cs[k + j]?) : takeCells ag n k cs' = takeCells ag n k cs := by
  unfold takeCells
  cases ag with
  | false => have := h 0 hn; simpa using this
  | true =>
    simp only [if_true]
    rw [hl]
    split
    · have : (cs'.drop k).take n = (cs.drop k).take n := by
        apply List.ext_getElem?
        intro j
        by_cases hj : j < n
        · rw [List.getElem?_take_of_lt hj, List.getElem?_take_of_lt hj, List.getElem?_drop, List.getElem?_drop]; exact h j hj
        · rw [List.getElem?_take_eq_none (by omega), List.getElem?_take_eq_none (by omega)]
      rw [this]
    · rfl

section
variable {R : Type} {k : Eff S → Option R} {r : R} {t : Nat → TV S} {ob : Nat → Option (Obj S)} {base : Nat} {o : Oper}
theorem enc_get (hE : EncOk E) {c : S.K} (x : S.El c) {j : Nat} (h : j < E.sz c) : ∃ tv, (E.enc c x)[j]? = some tv := ⟨_, List.getElem?_eq_getElem (by rw [hE.len]; exact h)⟩
theorem DR.at {M : Mem} {w : World} {c : S.K} {xs : List (Option (S.El c))} {g : GI} (h : DR E M w c xs g) {i : Nat} {x : S.El c} (hx : xs[i]? = some (some x)) {j : Nat} {tv : TV S} (hj : (E.enc c x)[j]? = some tv) :
    ∃ v, w.cell? (at_ g.b (i * g.s + j)) = some v ∧ (E.sub c j = false → CR E M tv v) := by
  cases h with
  | mk vs G hL hs hle live cell val hsl sub dis out hF => exact ⟨_, cell i x j tv hx hj, val i x j tv hx hj⟩
theorem ok_openEval (hE : EnvOk E) {ty : TypeId} {x : Operand} {ag : Bool} {n nm i k' : Nat} {c : S.K} {d : DX (S.El c)} (ho : o.op = .load ty x) (ht : tyOf E.P ty = some (ag, n)) (hx : ev t x = .ptr nm i k') (hob : ob nm = some (.deep c d))
    (h : openEval E base ag n nm i k' c d k = some r) : ∃ e, k e = some r ∧ OpOK E o t ob base e := by
  unfold openEval at h
  split at h
  · rename_i xs
    split at h
    · rename_i z hz
      have hz' : (DX.full xs).get[i]? = some (some z) := by simp [DX.get, hz]
      split at h
      · rename_i hp
        simp only [Bool.and_eq_true, decide_eq_true_eq, List.all_eq_true, List.mem_range, Bool.not_eq_true'] at hp
        split at h
        · rename_i v hv
          refine ⟨_, h, ?_⟩
          let cs := (List.range (E.sz c)).map fun j => if E.sub c j = true then .dead else ((E.enc c z)[j]?).getD .dead
          have hcs : ∀ j tv, cs[j]? = some tv → j < E.sz c ∧ (E.sub c j = true ∧ tv = .dead ∨ E.sub c j = false ∧ (E.enc c z)[j]? = some tv) := fun j tv hj => by
            have hjl : j < E.sz c := by have := (List.getElem?_eq_some_iff.1 hj).1; simpa [cs] using this
            refine ⟨hjl, ?_⟩
            obtain ⟨tv0, he⟩ := enc_get hE.toEncOk z hjl
            have hj2 : cs[j]? = some (if E.sub c j = true then .dead else tv0) := by simp only [cs, List.getElem?_map, List.getElem?_range hjl, Option.map_some, he, Option.getD_some]
            rw [hj2] at hj
            cases hs : E.sub c j with
            | true => rw [hs] at hj; exact .inl ⟨rfl, by simpa using hj.symm⟩
            | false => rw [hs] at hj; rw [he]; exact .inr ⟨rfl, by simpa using hj⟩
          have hv' : takeCells ag n k' cs = some v := by
            rw [← hv]
            refine takeCells_congr (by simp [cs, hE.len]) hp.1 fun j hj => ?_
            by_cases hjl : k' + j < E.sz c
            · obtain ⟨tv0, he⟩ := enc_get hE.toEncOk z hjl
              rw [he]
              simp only [cs, List.getElem?_map, List.getElem?_range hjl, Option.map_some, he, Option.getD_some, hp.2 j hj]
              rfl
            · rw [List.getElem?_eq_none (by simp [cs]; omega), List.getElem?_eq_none (by rw [hE.len]; omega)]
          refine ok_load ho ht hv' fun B ob' w φ M u hag hm hu => ?_
          rw [hx] at hu
          obtain ⟨g, hg, e⟩ := hu.ptr_inv
          obtain ⟨g', hg', hd⟩ := hm.objs nm _ ((hag nm (by simp)).trans hob)
          rw [hg] at hg'; cases hg'
          refine ⟨_, _, e, fun j y hy => ?_⟩
          obtain ⟨h1, h2⟩ := hcs _ y hy
          obtain ⟨tv0, he⟩ := enc_get hE.toEncOk z h1
          obtain ⟨u', hu1, hu2⟩ := hd.at hz' he
          refine ⟨u', by rw [show i * g.s + k' + j = i * g.s + (k' + j) by omega]; exact hu1, ?_⟩
          rcases h2 with ⟨_, rfl⟩ | ⟨h3, h4⟩
          · exact .dead _
          · rw [he] at h4; cases h4; exact .pure (hu2 h3)
        · cases h
      · split at h
        · rename_i hc
          obtain ⟨⟨rfl, rfl⟩, rfl⟩ := hc
          refine ⟨_, h, ?_⟩
          have hlen : (openO E c 0 base (E.enc c z)).length = cnt E c (E.sz c) := by
            have := openO_len (E := E) (c := c) (cs := E.enc c z) (j0 := 0) (b := base)
            rw [hE.len, Nat.zero_add] at this
            simpa [cnt] using this
          have hmem : ∀ p, p ∈ openO E c 0 base (E.enc c z) ↔ ∃ j tv, (E.enc c z)[j]? = some tv ∧ E.sub c j = true ∧ p = (base + cnt E c j, subObj E tv) := fun p => by
            have := openO_mem (E := E) (c := c) (b := base) (p := p) (cs := E.enc c z) (j0 := 0)
            simpa [cnt] using this
          have hlt : ∀ j, j < E.sz c → E.sub c j = true → cnt E c j < cnt E c (E.sz c) := fun j h1 h2 => cnt_lt h2 h1
          refine ⟨by simp, fun p hp => ?_, fun n h1 h2 => ?_, ?_⟩
          · rcases List.mem_cons.1 hp with rfl | hp
            · exact .inr ⟨by simp, by simp [hob]⟩
            · obtain ⟨j, tv, h1, h2, rfl⟩ := (hmem p).1 hp
              have := hlt j (enc_lt hE.toEncOk h1) h2
              exact .inl ⟨by simp, by simp only [hlen]; omega⟩
          · simp only [hlen] at h2
            obtain ⟨j, a1, a2, a3⟩ := cnt_onto (E := E) (c := c) (n := n - base) (j0 := 0) (by simp [cnt]) (l := E.sz c) (by rw [Nat.zero_add]; omega)
            rw [Nat.zero_add] at a2 a3
            obtain ⟨tv0, he⟩ := enc_get hE.toEncOk z a1
            simp only [List.map_cons, List.mem_cons, List.mem_map]
            exact .inr ⟨_, (hmem _).2 ⟨j, _, he, a2, rfl⟩, by simp only; omega⟩
          · intro B nt t' ob' a w φ M Q hd hev hrd hfr hB hrel
            have hx1 : VR E φ M (ev t x) (a.eval x) := hev x (by rw [ho]; simp [Op.operands])
            rw [hx] at hx1
            obtain ⟨g, hg, e1⟩ := hx1.ptr_inv
            have hob' : ob' nm = some (.deep c (.full xs)) := by rw [hrd nm (by simp)]; exact hob
            have hfr' : ∀ j, j < E.sz c → E.sub c j = true → ob' (base + cnt E c j) = none := fun j h1 h2 => hfr _ (by omega) (by have := hlt j h1 h2; simp only [hlen]; omega)
            have hnmq : ∀ j, j < E.sz c → E.sub c j = true → nm ≠ base + cnt E c j := fun j h1 h2 e => by have := hfr' j h1 h2; rw [← e, hob'] at this; cases this
            have hno : nm ∉ (openO E c 0 base (E.enc c z)).map (·.1) := by
              intro hc
              simp only [List.mem_map] at hc
              obtain ⟨p, hp, e⟩ := hc
              obtain ⟨j, tv, a1, a2, rfl⟩ := (hmem p).1 hp
              exact hnmq j (enc_lt hE.toEncOk a1) a2 e.symm
            obtain ⟨φ', hφ, hW, hcells⟩ := hrel.mem.openDeep hE.toEncOk hE.sub hob' rfl (dx' := .hole xs i) rfl hz' (fun j => base + cnt E c j)
              (fun j h1 h2 => ⟨hfr' j h1 h2, by omega⟩) (fun j j' _ h2 _ h4 e => cnt_inj h2 h4 (by simpa using e))
              (o' := setAll ob' ((nm, .deep c (.hole xs i)) :: openO E c 0 base (E.enc c z)))
              (by rw [show setAll ob' ((nm, .deep c (.hole xs i)) :: openO E c 0 base (E.enc c z)) nm = setAll (setF ob' nm (some (.deep c (.hole xs i)))) (openO E c 0 base (E.enc c z)) nm from rfl, setAll_not _ _ hno, setF_self])
              (fun j d ys h1 h2 => by
                have hin : (base + cnt E c j, objOf E d ys) ∈ openO E c 0 base (E.enc c z) := (hmem _).2 ⟨j, _, h2, h1, rfl⟩
                show setAll (setF ob' nm _) _ (base + cnt E c j) = _
                obtain ⟨y, b1, b2⟩ := setAll_mem _ (setF ob' nm (some (.deep c (.hole xs i)))) (List.mem_map_of_mem (f := Prod.fst) hin)
                rw [b2]
                obtain ⟨j', tv', c1, c2, c3⟩ := (hmem _).1 b1
                simp only [Prod.mk.injEq] at c3
                have : j = j' := cnt_inj h1 c2 (by omega)
                subst this
                rw [h2] at c1; cases c1
                rw [c3.2]; rfl)
              (fun n h1 h2 => by
                show setAll (setF ob' nm _) _ n = _
                rw [setAll_not _ _ ?_, setF_ne _ _ h1]
                intro hc
                simp only [List.mem_map] at hc
                obtain ⟨p, hp, e⟩ := hc
                obtain ⟨j, tv, a1, a2, rfl⟩ := (hmem p).1 hp
                exact h2 j (enc_lt hE.toEncOk a1) a2 e.symm) hg
            have hget : ∀ j, (openV E c 0 base (E.enc c z))[j]? = ((E.enc c z)[j]?).map fun tv => if E.sub c j = true then .slw (base + cnt E c j) else tv := fun j => by
              have := openV_get (E := E) (c := c) (b := base) (cs := E.enc c z) (j0 := 0) j
              simpa [cnt] using this
            have hol : (openV E c 0 base (E.enc c z)).length = E.sz c := by
              rw [← hE.len c z]
              apply Nat.le_antisymm
              · apply Nat.le_of_not_lt
                intro hl
                have h1 : (openV E c 0 base (E.enc c z))[(E.enc c z).length]? = some (openV E c 0 base (E.enc c z))[(E.enc c z).length] := List.getElem?_eq_getElem hl
                rw [hget, List.getElem?_eq_none (Nat.le_refl _)] at h1; cases h1
              · apply Nat.le_of_not_lt
                intro hl
                have h1 : (E.enc c z)[(openV E c 0 base (E.enc c z)).length]? = some (E.enc c z)[(openV E c 0 base (E.enc c z)).length] := List.getElem?_eq_getElem hl
                have h2 := hget (openV E c 0 base (E.enc c z)).length
                rw [List.getElem?_eq_none (Nat.le_refl _), h1] at h2; cases h2
            obtain ⟨v, hrun, hvr⟩ := run_loadVar (E := E) (φ := φ') (M := M) (k := 0) (b := g.b) (off := i * g.s + 0) (cs := openV E c 0 base (E.enc c z)) (tv := .agg (openV E c 0 base (E.enc c z))) (w := w) ht
              (by unfold takeCells; rw [if_pos rfl, if_pos (by omega), List.drop_zero, List.take_of_length_le (by omega)]) (fun j y hy => by
                rw [Nat.zero_add, hget] at hy
                cases he : (E.enc c z)[j]? with
                | none => rw [he] at hy; cases hy
                | some tv =>
                  rw [he] at hy
                  simp only [Option.map_some, Option.some.injEq] at hy
                  obtain ⟨v, hv1, hv2⟩ := hcells j tv he
                  rw [hy] at hv2
                  exact ⟨v, by rw [Nat.add_zero]; exact hv1, hv2⟩)
            obtain ⟨dst, op', ty', pos, after, guard⟩ := o
            subst ho
            refine upon_of_value (run_value (v := v) (w' := w) ?_) ⟨φ', M, hrel.put hd hφ (Mem.le_refl _) hvr hW⟩
            rw [e1]
            unfold Instr.loadAt
            rw [run_bind, run_sureAddr]
            exact hrun
        · cases h
    · cases h
  · cases h
theorem ok_closeEval (hE : EnvOk E) {ty : TypeId} {x v : Operand} {ag : Bool} {n nm i : Nat} {c : S.K} {d : DX (S.El c)} (ho : o.op = .store ty x v) (ht : tyOf E.P ty = some (ag, n)) (hx : ev t x = .ptr nm i 0) (hob : ob nm = some (.deep c d))
    (hlen : (cellsOf (ev t v)).length = n) (hal : (cellsOf (ev t v)).all aliveCell = true)
    (h : closeEval E ob base nm i c d (cellsOf (ev t v)) k = some r) : ∃ e, k e = some r ∧ OpOK E o t ob base e := by
  unfold closeEval at h
  split at h
  · cases h
  · rename_i ps ns htk
    split at h
    · rename_i hap
      simp only [Bool.and_eq_true, decide_eq_true_eq] at hap
      obtain ⟨hap, hcl⟩ := hap
      obtain ⟨p1, p2, p3, p4⟩ := apartN_spec hap
      split at h
      · cases h
      · rename_i z hdec
        have key : ∀ xs : List (S.El c), i < d.get.length → (DX.full (xs.set i z)).get = d.get.set i (some z) →
            OpOK E o t ob base ⟨.undef, nm :: (cellsOf (ev t v)).flatMap rowName, closeWr E ob c (cellsOf (ev t v)) ns ++ [(nm, .deep c (.full (xs.set i z)))], base⟩ := by
          intro xs hi hget
          have hfr : ∀ p ∈ freezes ob (frozenIn E c 0 (cellsOf (ev t v))), p.1 ∈ (cellsOf (ev t v)).flatMap rowName ∧ ob p.1 ≠ none := fun p hp => by
            obtain ⟨a1, c', xs', _, a3⟩ := freezes_mem hp
            exact ⟨frozenIn_flat a1, by rw [a3]; simp⟩
          have hns : ∀ n ∈ ns, n ∈ (cellsOf (ev t v)).flatMap rowName ∧ ob n ≠ none := fun n hn => by
            obtain ⟨j, u, p, k1, k2⟩ := (takeIn_spec htk).2.1 n hn
            cases hs : E.sub c (0 + j) with
            | false => have := (takeV_pure k2 hs).2; cases this
            | true =>
              rcases takeV_sub k2 hs with ⟨_, _, e⟩ | ⟨n', d', ys, rfl, _, e, hob'⟩
              · cases e
              · cases e
                exact ⟨List.mem_flatMap.2 ⟨_, List.mem_of_getElem? k1, by simp [rowName]⟩, by rw [hob']; simp⟩
          refine ⟨Nat.le_refl _, fun p hp => ?_, fun n h1 h2 => ?_, ?_⟩
          · simp only [closeWr, List.mem_append, List.mem_singleton, List.mem_map] at hp
            rcases hp with (hp | ⟨n', hn', rfl⟩) | rfl
            · exact .inr ⟨List.mem_cons_of_mem _ (hfr p hp).1, (hfr p hp).2⟩
            · exact .inr ⟨List.mem_cons_of_mem _ (hns n' hn').1, (hns n' hn').2⟩
            · exact .inr ⟨by simp, by simp [hob]⟩
          · simp only at h2; omega
          · intro B nt t' ob' a w φ M Q hd hev hrd hfr' hB hrel
            have hx1 : VR E φ M (ev t x) (a.eval x) := hev x (by rw [ho]; simp [Op.operands])
            have hv1 : VR E φ M (ev t v) (a.eval v) := hev v (by rw [ho]; simp [Op.operands])
            rw [hx] at hx1
            obtain ⟨g, hg, e1⟩ := hx1.ptr_inv
            have hob' : ob' nm = some (.deep c d) := by rw [hrd nm (by simp)]; exact hob
            obtain ⟨g', hg', hdr⟩ := hrel.mem.objs nm _ hob'
            rw [hg] at hg'; cases hg'
            obtain ⟨hL, hs, hle, hlive⟩ := hdr.facts
            have hd' : ev t v ≠ .dead := by intro e; rw [e] at hal; simp [cellsOf, aliveCell] at hal
            obtain ⟨h2, h3⟩ := VR.cells hd' hv1
            have hone : ∀ u ∈ (a.eval v).cells.toList, oneCell u = true := by
              intro u hu
              obtain ⟨j, hj⟩ := List.mem_iff_getElem?.1 hu
              have hj' : (a.eval v).cells[j]? = some u := by simpa using hj
              have hlt : j < (cellsOf (ev t v)).length := by rw [h2]; exact (Array.getElem?_eq_some_iff.1 hj').1
              have hy : (cellsOf (ev t v))[j]? = some (cellsOf (ev t v))[j] := List.getElem?_eq_getElem hlt
              exact oneCell_VR (h3 j _ u hy hj') (List.all_eq_true.1 hal _ (List.getElem_mem hlt))
            have hbig : ∀ j, j < E.sz c → i * g.s + j < g.n := by
              intro j hj
              have : (i + 1) * g.s ≤ g.L * g.s := Nat.mul_le_mul_right _ (by omega)
              rw [Nat.succ_mul, hs] at this
              rw [hs] at hle ⊢
              omega
            obtain ⟨φ', M', hφ, hM, hW⟩ := close_rel hE hrel.mem (nm := nm) (i := i) (dx := d) (dx' := .full (xs.set i z)) (us := (a.eval v).cells.toList) (fun n hn => hrd n (List.mem_cons_of_mem _ hn)) hob' hi hget htk
              (fun n hn => ⟨fun e => p1 (e ▸ hn), p3 n hn⟩) (fun p hp e => p2 (e ▸ (freezes_mem hp).1)) p4 hdec hcl (by simp [h2]) (fun j tv u hj hu => h3 j tv u hj (by simpa using hu)) hg
            obtain ⟨dst, op', ty', pos, after, guard⟩ := o
            subst ho
            have hrun : (execOp a.eval ⟨dst, .store ty x v, ty', pos, after, guard⟩).run E.P w = .ok .skip (writeCells w g.b (i * g.s) (a.eval v).cells.toList) := by
              refine run_skip ?_
              rw [e1, Nat.add_zero]
              exact run_storeAt w ht (by omega) hone (fun j hj => hlive _ (hbig j (by omega)))
            exact upon_of_skip hrun ⟨φ', M', hrel.put hd hφ hM (.pure .undef) hW⟩
        split at h
        · rename_i xs
          split at h
          · rename_i hi
            exact ⟨_, h, key xs (by simpa [DX.get] using hi) (by simp [DX.get, List.map_set])⟩
          · cases h
        · rename_i xs j
          split at h
          · rename_i hi
            obtain ⟨rfl, hi⟩ := hi
            exact ⟨_, h, key xs (by simpa [DX.get] using hi) (by simp [DX.get, List.map_set])⟩
          · cases h
        · cases h
    · cases h
theorem pureOf_ob {v p : TV S} {n : Nat} (h : pureOf ob v = some p) (hn : n ∈ rowName v) : ob n ≠ none := by
  cases v with
  | slw nm =>
    simp only [rowName, List.mem_singleton] at hn
    subst hn
    intro e
    simp only [pureOf, e] at h
    cases h
  | sl nm a b =>
    simp only [rowName, List.mem_singleton] at hn
    subst hn
    intro e
    simp only [pureOf, e] at h
    cases h
  | _ => cases hn
theorem takeIn_names {c : S.K} {cs ps : List (TV S)} {ns : List Nat} (h : takeIn E ob c 0 cs = some (ps, ns)) {n : Nat} (hn : n ∈ cs.flatMap rowName) : ob n ≠ none ∧ (n ∈ ns ∨ n ∈ frozenIn E c 0 cs) := by
  obtain ⟨v, hv, hn⟩ := List.mem_flatMap.1 hn
  obtain ⟨j, hj⟩ := List.mem_iff_getElem?.1 hv
  obtain ⟨p, l, k1, k2, k3⟩ := (takeIn_spec h).1 j v hj
  cases hs : E.sub c (0 + j) with
  | false => exact ⟨pureOf_ob (takeV_pure k2 hs).1 hn, .inr (frozenIn_mem.2 ⟨j, v, hj, hs, hn⟩)⟩
  | true =>
    rcases takeV_sub k2 hs with ⟨rfl, _⟩ | ⟨n', d, ys, rfl, _, rfl, hob⟩
    · cases hn
    · simp only [rowName, List.mem_singleton] at hn
      subst hn
      exact ⟨by rw [hob]; simp, .inl (k3 _ (by simp))⟩
theorem setAll_over {f : Nat → Option (Obj S)} {b : Nat} {v : Option (Obj S)} {l : List (Nat × Obj S)} {d : Obj S} : setAll (setF f b v) (l ++ [(b, d)]) = setAll f (l ++ [(b, d)]) := by
  funext n
  rw [setAll_append, setAll_append, setAll_one, setAll_one]
  by_cases e : n = b
  · subst e; rw [setF_self, setF_self]
  · rw [setF_ne _ _ e, setF_ne _ _ e]
    exact setAll_congr l (setF_ne _ _ e)
theorem ok_appendDeep (hE : EnvOk E) {args : Array Operand} {ts : Array TypeId} {x y : Operand} {e e' : TypeId} {c : S.K} {bn : Nat} {cs : List (TV S)} (ho : o.op = .call { callee := .builtin .append, args, argTypes := ts }) (ha : args.toList = [x, y])
    (h0 : (ts[0]?).bind E.P.underlying = some (.slice e)) (h1 : (ts[1]?).bind E.P.underlying = some (.slice e')) (hc : E.code e = some c) (hbo : boxOne E ob c (ev t y) = some (bn, cs)) (h : appendDeep E ob base c (ev t x) bn cs k = some r) : ∃ ef, k ef = some r ∧ OpOK E o t ob base ef := by
  obtain ⟨st, hst, hu⟩ : ∃ st, ts[0]? = some st ∧ E.P.underlying st = some (.slice e) := by
    cases h2 : ts[0]? with
    | none => rw [h2] at h0; cases h0
    | some st => rw [h2] at h0; exact ⟨st, rfl, h0⟩
  obtain ⟨xt, hxt, hux⟩ : ∃ xt, ts[1]? = some xt ∧ E.P.underlying xt = some (.slice e') := by
    cases h2 : ts[1]? with
    | none => rw [h2] at h1; cases h1
    | some st => rw [h2] at h1; exact ⟨st, rfl, h1⟩
  obtain ⟨i, hi, hsz, hb, zv, hz, hzs⟩ := hE.size e c hc
  obtain ⟨hy, hobb, hcl, hal⟩ : ev t y = .sl bn 0 1 ∧ ob bn = some (.box cs) ∧ cs.length = E.sz c ∧ cs.all aliveCell = true := by
    unfold boxOne at hbo
    split at hbo
    · rename_i nm hy
      split at hbo
      · rename_i cs' hob
        split at hbo
        · rename_i hq
          simp only [Bool.and_eq_true, decide_eq_true_eq] at hq
          cases hbo
          exact ⟨hy, hob, hq.1.2, hq.2⟩
        · cases hbo
      · cases hbo
    · cases hbo
  unfold appendDeep at h
  split at h
  · rename_i nm hx
    split at h
    · rename_i d xs hob
      split at h
      · rename_i hdc
        subst hdc
        split at h
        · cases h
        · rename_i ps ns htk
          split at h
          · rename_i hap
            obtain ⟨p1, p2, p3, p4⟩ := apartN_spec hap
            split at h
            · cases h
            · rename_i z hdec
              split at h
              · rename_i hmax
                refine ⟨_, h, ?_⟩
                have hfr : ∀ p ∈ freezes ob (frozenIn E d 0 cs), p.1 ∈ cs.flatMap rowName ∧ ob p.1 ≠ none := fun p hp => by
                  obtain ⟨a1, c', xs', _, a3⟩ := freezes_mem hp
                  exact ⟨frozenIn_flat a1, by rw [a3]; simp⟩
                have hns : ∀ n ∈ ns, n ∈ cs.flatMap rowName ∧ ob n ≠ none := fun n hn => by
                  obtain ⟨j, u, p, k1, k2⟩ := (takeIn_spec htk).2.1 n hn
                  cases hs : E.sub d (0 + j) with
                  | false => have := (takeV_pure k2 hs).2; cases this
                  | true =>
                    rcases takeV_sub k2 hs with ⟨_, _, e⟩ | ⟨n', d', ys, rfl, _, e, hob'⟩
                    · cases e
                    · cases e
                      exact ⟨List.mem_flatMap.2 ⟨_, List.mem_of_getElem? k1, by simp [rowName]⟩, by rw [hob']; simp⟩
                refine ⟨by simp, fun p hp => ?_, fun n h1 h2 => ?_, ?_⟩
                · simp only [closeWr, List.mem_append, List.mem_cons, List.not_mem_nil, or_false, List.mem_map] at hp
                  rcases hp with (rfl | hp | ⟨n', hn', rfl⟩) | rfl
                  · exact .inr ⟨by simp, by simp [hob]⟩
                  · exact .inr ⟨List.mem_cons_of_mem _ (List.mem_cons_of_mem _ (hfr p hp).1), (hfr p hp).2⟩
                  · exact .inr ⟨List.mem_cons_of_mem _ (List.mem_cons_of_mem _ (hns n' hn').1), (hns n' hn').2⟩
                  · exact .inl ⟨Nat.le_refl _, Nat.lt_succ_self _⟩
                · simp only at h2
                  have : n = base := by omega
                  subst this
                  simp
                · intro B nt t' ob' a w φ M Q hd hev hrd hfr' hB hrel
                  have hargs : args = #[x, y] := by rw [← Array.toArray_toList (xs := args), ha]
                  have vx : VR E φ M (ev t x) (a.eval x) := hev x (by rw [ho, hargs]; simp [Op.operands, Call.operands])
                  have vy : VR E φ M (ev t y) (a.eval y) := hev y (by rw [ho, hargs]; simp [Op.operands, Call.operands])
                  rw [hx] at vx
                  rw [hy] at vy
                  have hob2 : ob' nm = some (.deep d (.full xs)) := by rw [hrd nm (by simp)]; exact hob
                  have hbb2 : ob' bn = some (.box cs) := by rw [hrd bn (by simp)]; exact hobb
                  have hag : ∀ n ∈ cs.flatMap rowName, ob' n = ob n := fun n hn => hrd n (List.mem_cons_of_mem _ (List.mem_cons_of_mem _ hn))
                  have hnone : ob' base = none := hfr' base (Nat.le_refl _) (Nat.lt_succ_self _)
                  obtain ⟨g, hg, ad, cap, ex, hcap, _, had⟩ := vx.slw_inv
                  obtain ⟨g', hg', hdr⟩ := hrel.mem.objs nm _ hob2
                  rw [hg] at hg'; cases hg'
                  obtain ⟨hL, hs, hle, hlive⟩ := hdr.facts
                  have hLx : g.L = xs.length := by rw [hL]; simp [DX.get]
                  rw [hLx] at ex hcap
                  obtain ⟨gb, hgb, adb, capb, ey, hcapb, _, hadb⟩ := vy.sl_inv
                  obtain ⟨gb', hgb', hbox⟩ := hrel.mem.objs bn _ hbb2
                  rw [hgb] at hgb'; cases hgb'
                  obtain ⟨hadb, _⟩ := hadb.resolve_left (by omega)
                  rw [Nat.zero_mul] at hadb
                  subst hadb
                  -- the new element's cells
                  let us : List Value := (List.range (E.sz d)).map fun j => (w.cell? (at_ gb.b j)).getD Go.undef
                  have hul : us.length = E.sz d := by simp [us]
                  have husc : ∀ (j : Nat) (u : Value), us[j]? = some u → w.cell? (at_ gb.b j) = some u ∧ ∃ tv, cs[j]? = some tv ∧ VR E φ M tv u := fun j u hj => by
                    have hjl : j < E.sz d := by have := (List.getElem?_eq_some_iff.1 hj).1; rwa [hul] at this
                    obtain ⟨tv, htv⟩ : ∃ tv, cs[j]? = some tv := ⟨_, List.getElem?_eq_getElem (by omega)⟩
                    obtain ⟨v, hv, _, hvr⟩ := hbox j tv htv
                    have : us[j]? = some v := by simp only [us, List.getElem?_map, List.getElem?_range hjl, Option.map_some, hv, Option.getD_some]
                    rw [hj] at this; cases this
                    exact ⟨hv, tv, htv, hvr⟩
                  have huv : ∀ (j : Nat) (tv : TV S) (u : Value), cs[j]? = some tv → us[j]? = some u → VR E φ M tv u := fun j tv u h1 h2 => by
                    obtain ⟨_, tv', h3, h4⟩ := husc j u h2
                    rw [h1] at h3; cases h3; exact h4
                  have hone : ∀ u ∈ us, oneCell u = true := fun u hu => by
                    obtain ⟨j, hj⟩ := List.mem_iff_getElem?.1 hu
                    obtain ⟨_, tv, h3, h4⟩ := husc j u hj
                    exact oneCell_VR h4 (List.all_eq_true.1 hal tv (List.mem_of_getElem? h3))
                  have hfc : ∀ w', (∀ b off, w'.cell? (at_ b off) = w.cell? (at_ b off)) → (Builtin.firstCells (E.sz d) 1 (a.eval y)).run E.P w' = .ok us.toArray w' := fun w' hw' => by
                    rw [ey]
                    show (loadCells (at_ gb.b 0) (1 * E.sz d)).run E.P w' = _
                    exact run_loadCells gb.b 0 w' us _ (by rw [hul, Nat.one_mul]) fun j v hj => by rw [hw', Nat.zero_add]; exact (husc j v hj).1
                  have hn : (Builtin.lenOf (a.eval y)).run E.P w = .ok 1 w := by rw [ey]; rfl
                  have hgl : (DX.full xs).get.length = xs.length := by simp [DX.get]
                  by_cases hfit : xs.length + 1 ≤ cap
                  · -- room behind
                    obtain ⟨had, hcapn⟩ := had.resolve_left (by omega)
                    rw [Nat.zero_mul] at had
                    rw [Nat.zero_add] at hcapn
                    subst had
                    have hgn : (xs.length + 1) * E.sz d ≤ g.n := by rw [← hs]; exact Nat.le_trans (Nat.mul_le_mul_right _ hfit) hcapn
                    obtain ⟨hφ1, hW1⟩ := hrel.mem.growHole hE.toEncOk hg hob2 rfl hnone hB 1 (dx' := .gen (xs.map some ++ [none])) rfl (by simpa [DX.get] using hgn)
                    rw [hgl] at hφ1 hW1
                    have hlv : ∀ j, j < us.length → Live w g.b (xs.length * E.sz d + j) := fun j hj => hlive _ (by rw [Nat.add_mul, Nat.one_mul] at hgn; omega)
                    have hrun := run_append_room (ty := o.type) (a := some (at_ g.b 0)) (L := xs.length) (cap := cap) (n := 1) (x := a.eval y) (us := us) (w := w) (W' := writeCells w g.b (xs.length * E.sz d) us) hst hu hxt hux hi hn (by rw [hsz]; exact hfc w fun _ _ => rfl) hfit (fun q hq => by
                      cases hq
                      rw [at_add, run_storeCells g.b _ us w 0 hone (fun j hj => by rw [hsz, Nat.add_zero, Nat.zero_add]; exact hlv j hj)]
                      simp [hsz]) (fun hq => by cases hq)
                    rw [← ex] at hrun
                    obtain ⟨φ', M', hφ2, hM2, hW2⟩ := close_rel (ob := ob) (dx' := .full (xs ++ [z])) (i := xs.length) (nm := base) (us := us) hE hW1 (fun n hn => by
                        obtain ⟨q1, q2⟩ := takeIn_names htk hn
                        have e1 : n ≠ base := fun e1 => q1 (by rw [← hag n hn, e1]; exact hnone)
                        have e2 : n ≠ nm := fun e2 => by subst e2; rcases q2 with q2 | q2; exact p1 q2; exact p2 q2
                        rw [setF_ne _ _ e1, setF_ne _ _ e2]; exact hag n hn) (setF_self _ _ _) (by simp [DX.get]) (by simp [DX.get]) htk (fun n hn => ⟨fun e1 => (hns n hn).2 (by rw [← hag n (hns n hn).1, e1]; exact hnone), p3 n hn⟩)
                        (fun p hp e1 => (hfr p hp).2 (by rw [← hag _ (hfr p hp).1, e1]; exact hnone)) p4 hdec hcl (by rw [hul, hcl]) (fun j tv u h1 h2 => (huv j tv u h1 h2).mono hφ1 (Mem.le_refl _)) (setF_self _ _ _)
                    rw [setAll_over] at hW2
                    simp only [hs] at hW2
                    obtain ⟨dst, op', ty', pos, after, guard⟩ := o
                    subst ho
                    refine upon_of_value (run_append_op (args := args) ha a.eval hrun) ⟨φ', M', hrel.put hd (hφ1.le_trans hφ2) hM2 ?_ hW2⟩
                    refine VR.mono hφ2 hM2 (.slw (setF_self _ _ _) ⟨some (at_ g.b 0), cap, rfl, hfit, by simp, .inr ⟨by simp, by simpa using hcapn⟩⟩)
                  · -- a new block
                    let us0 : List Value := (List.range (xs.length * E.sz d)).map fun j => (w.cell? (at_ g.b j)).getD Go.undef
                    have hul0 : us0.length = xs.length * E.sz d := by simp [us0]
                    have husc0 : ∀ (j : Nat) (u : Value), us0[j]? = some u → w.cell? (at_ g.b j) = some u := fun j u hj => by
                      have hjl : j < xs.length * E.sz d := by have := (List.getElem?_eq_some_iff.1 hj).1; rwa [hul0] at this
                      obtain ⟨⟨v, hv⟩, _⟩ := hlive j (by rw [hLx, hs] at hle; omega)
                      have : us0[j]? = some v := by simp only [us0, List.getElem?_map, List.getElem?_range hjl, Option.map_some, hv, Option.getD_some]
                      rw [hj] at this; cases this
                      exact hv
                    have hfc0 : (Builtin.firstCells (E.sz d) xs.length (a.eval x)).run E.P w.drew = .ok us0.toArray w.drew := by
                      rw [ex]
                      by_cases hz0 : xs.length = 0
                      · have e0 : us0 = [] := List.length_eq_zero_iff.1 (by rw [hul0, hz0, Nat.zero_mul])
                        rw [e0, hz0]
                        cases ad with
                        | none => rfl
                        | some q =>
                          simp only [Builtin.firstCells, Nat.zero_mul]
                          rfl
                      · obtain ⟨had, _⟩ := had.resolve_left (by omega)
                        rw [Nat.zero_mul] at had
                        subst had
                        show (loadCells (at_ g.b 0) (xs.length * E.sz d)).run E.P w.drew = _
                        exact run_loadCells g.b 0 w.drew us0 _ (by rw [hul0]) fun j v hj => by rw [Nat.zero_add]; exact husc0 j v hj
                    obtain ⟨x', hrun⟩ := run_append_grow (ty := o.type) (us := us) (us0 := us0) hst hu hxt hux hi hz hb hmax hn (by rw [hsz]; exact hfc w.drew fun _ _ => rfl) (by rw [hsz, ← ex]; exact hfc0) hfit
                    rw [← ex] at hrun
                    let vs : Array Value := us0.toArray ++ us.toArray ++ Builtin.zeroCells zv.cells x'
                    have hvs : ∀ (j : Nat) (u : Value), (us0 ++ us)[j]? = some u → vs[j]? = some u := fun j u hj => append_pre (by simpa using hj)
                    have hvsz : vs.size = (xs.length + 1 + x') * E.sz d := by
                      simp only [vs, Array.size_append, List.size_toArray, zeroCells_size, hul, hul0, hzs]
                      rw [Nat.add_mul, Nat.add_mul, Nat.one_mul]
                    have hlv : ∀ j, j < vs.size → Live (w.drew.alloc (.cells vs e)) w.drew.heap.size j := fun j hj =>
                      ⟨⟨vs[j], by simp only [at_, World.cell?_alloc_new]; exact Array.getElem?_eq_getElem hj⟩, by simp only [at_, World.frozen?_alloc_new]⟩
                    obtain ⟨hφ1, hW1⟩ := hrel.mem.drew.moveDeep hE.toEncOk hg hob2 rfl hnone hB 1 (dx' := .gen (xs.map some ++ [none])) rfl (vs := vs) (e := e) (by rw [hgl, hvsz]; exact Nat.mul_le_mul_right _ (by omega)) (fun i1 x1 j tv h1 h2 => by
                      have hi1 : i1 < xs.length := by have := (List.getElem?_eq_some_iff.1 h1).1; simpa [DX.get] using this
                      have hj1 := enc_lt hE.toEncOk h2
                      have hlt : i1 * E.sz d + j < xs.length * E.sz d := by
                        have : (i1 + 1) * E.sz d ≤ xs.length * E.sz d := Nat.mul_le_mul_right _ hi1
                        rw [Nat.succ_mul] at this
                        omega
                      obtain ⟨u, hu1⟩ : ∃ u, us0[i1 * E.sz d + j]? = some u := ⟨_, List.getElem?_eq_getElem (by rw [hul0]; exact hlt)⟩
                      rw [hvs _ u (by rw [List.getElem?_append_left (by rw [hul0]; exact hlt)]; exact hu1), hs]
                      exact (husc0 _ u hu1).symm) hlv
                    rw [hgl] at hφ1 hW1
                    obtain ⟨φ', M', hφ2, hM2, hW2⟩ := close_rel (ob := ob) (dx' := .full (xs ++ [z])) (i := xs.length) (nm := base) (us := us) hE hW1 (fun n hn => by
                        obtain ⟨q1, q2⟩ := takeIn_names htk hn
                        have e1 : n ≠ base := fun e1 => q1 (by rw [← hag n hn, e1]; exact hnone)
                        have e2 : n ≠ nm := fun e2 => by subst e2; rcases q2 with q2 | q2; exact p1 q2; exact p2 q2
                        rw [setF_ne _ _ e1, setF_ne _ _ e2]; exact hag n hn) (setF_self _ _ _) (by simp [DX.get]) (by simp [DX.get]) htk (fun n hn => ⟨fun e1 => (hns n hn).2 (by rw [← hag n (hns n hn).1, e1]; exact hnone), p3 n hn⟩)
                        (fun p hp e1 => (hfr p hp).2 (by rw [← hag _ (hfr p hp).1, e1]; exact hnone)) p4 hdec hcl (by rw [hul, hcl]) (fun j tv u h1 h2 => (huv j tv u h1 h2).mono hφ1 (Mem.le_refl _)) (setF_self _ _ _)
                    rw [setAll_over] at hW2
                    simp only at hW2
                    rw [writeCells_same us (w := w.drew.alloc (.cells vs e)) (b := w.drew.heap.size) (off := xs.length * E.sz d) (fun j v hj => by
                      simp only [at_, World.cell?_alloc_new]
                      refine hvs _ v ?_
                      rw [List.getElem?_append_right (by omega), hul0, Nat.add_sub_cancel_left]; exact hj)] at hW2
                    obtain ⟨dst, op', ty', pos, after, guard⟩ := o
                    subst ho
                    refine upon_of_value (run_append_op (args := args) ha a.eval hrun) ⟨φ', M', hrel.put hd (hφ1.le_trans hφ2) hM2 ?_ hW2⟩
                    refine VR.mono hφ2 hM2 (.slw (setF_self _ _ _) ⟨some (at_ w.drew.heap.size 0), xs.length + 1 + x', rfl, Nat.le_add_right _ _, by simp, .inr ⟨by simp, by rw [Nat.zero_add, hvsz]; exact Nat.le_refl _⟩⟩)
              · cases h
          · cases h
      · cases h
    · cases h
  · cases h
end
end TE
