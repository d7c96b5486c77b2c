/- TE: slices.SortFunc at structs, by the kit's contract. -/
import Derived.Test.YtfpfmibcnldepaaTE23
import Derived.Shelf.SlSortCmp.NoneTotal
namespace TE
open Go Go.Proofs Go.Shelf Go.RowKit Go.Lib Go.Sort
variable {S : Sig} {E : Env S}

theorem oneCell_of_CR {M : Mem} {tv : TV S} {v : Value} (h : CR E M tv v) (ha : aliveCell tv = true) : v.oneCell' = true := by
  cases h <;> first | rfl | cases ha

/-- An element with the values of its cells. -/
def ElV (E : Env S) (M : Mem) (c : S.K) : Type := {p : S.El c × List Value // p.2.length = E.sz c ∧ (∀ v ∈ p.2, v.oneCell' = true) ∧ ∀ (j : Nat) (tv : TV S) (v : Value), (E.enc c p.1)[j]? = some tv → p.2[j]? = some v → CR E M tv v}

theorem grow_of_below {w w' : World} (h : Below w.heap.size w w') (hd : w.drawn ≤ w'.drawn) : ∃ q os, w' = grow (w.drewN q) os := by
  refine ⟨w'.drawn - w.drawn, w'.heap.extract w.heap.size w'.heap.size, ?_⟩
  have h1 : w'.heap = w.heap ++ w'.heap.extract w.heap.size w'.heap.size := by
    apply Array.ext_getElem?
    intro i
    by_cases hi : i < w.heap.size
    · rw [Array.getElem?_append_left hi, h.block i hi]
    · rw [Array.getElem?_append_right (by omega), Array.getElem?_extract]
      have e : w.heap.size + (i - w.heap.size) = i := by omega
      by_cases h2 : i - w.heap.size < min w'.heap.size w'.heap.size - w.heap.size
      · rw [if_pos h2, e]
      · rw [if_neg h2]
        exact Array.getElem?_eq_none_iff.2 (by have := h.size; omega)
  cases w with
  | mk heap tape drawn os output =>
    cases w' with
    | mk heap' tape' drawn' os' output' =>
      obtain ⟨e1, e2, e3, _, _⟩ := h
      simp only at e1 e2 e3 h1 hd
      subst e1; subst e2; subst e3
      simp only [grow, World.drewN, World.mk.injEq, and_true, true_and]
      exact ⟨h1, by omega⟩

theorem calls_drawnV {f : FuncId} {args : List (TV S)} {res : Res S} (h : CallOK E f args [] res) (w : World) {vals : Array Value} (hl : args.length = vals.size)
    (hv : ∀ (i : Nat) (tv : TV S) (v : Value), args[i]? = some tv → vals[i]? = some v → VR E (fun _ => none) (fun b off => w.cell? (at_ b off)) tv v) :
    Calls E.P f vals w fun e w' => (∃ v φ M, e = .returned v ∧ VR E φ M res.v v) ∧ Below w.heap.size w w' ∧ w.drawn ≤ w'.drawn := by
  refine (h.2 ⟨w, fun _ => False, fun b off => w.cell? (at_ b off), fun _ => none, 0⟩ vals rfl hl hv ?_).mono ?_
  · exact ⟨fun nm x hx => by simp at hx, fun _ _ => rfl, fun nm nm' x x' b f f' hx => by simp at hx, fun nm x b f off hx => by simp at hx, fun b off v hv => hv, rfl, rfl, rfl, Nat.le_refl _, fun _ _ _ => rfl,
      fun nm x b f hx => by simp at hx, fun nm x b f hx => by simp at hx, Mem.le_refl _, fun b off hne => absurd rfl hne, fun _ h => absurd h (Nat.not_lt_zero _), Nat.le_refl _⟩
  · rintro e w' ⟨v, φ, M, he, hv', hW⟩
    exact ⟨⟨v, φ, M, he, hv'⟩, ⟨hW.os, hW.tape, hW.output, hW.size, fun k hk => hW.kept k hk (fun h => h)⟩, hW.drawn⟩

section
variable {ρ : Ren} {f g : FuncId} {c : S.K} {cf : S.El c → S.El c → Int} {xs : List (S.El c)}

theorem sort_call (hE : EnvOk E) (L : SlLaysF0.n6 E.P ρ) (hf : ρ.f 6 = f) (aE : ∀ w, (isAgg (ρ.t 24)).run E.P w = .ok true w) (zE : ∀ w, (Go.sizeOf (ρ.t 24)).run E.P w = .ok (E.sz c) w)
    (hO : SWO (ltOf cf)) (hT : ∀ x y, ltOf cf x y = false → ltOf cf y x = false → x = y) (eg : ∀ args w, (callFunc g args).run E.P w = .ok (.enter g args) w)
    (hcmp : ∀ x y, CallOK E g [.agg (E.enc c x), .agg (E.enc c y)] [] ⟨.int .i64 (cf x y), some [], []⟩)
    (hfn : ∃ fn, E.P.funcs[f]? = some fn ∧ (fn.name == "runtime.NumGoroutine") = false ∧ fn.body.isNone = false) (hlen : xs.length < 4611686018427387904) :
    CallOK E f [.slw 0, .fn g []] [.row c xs .own] ⟨.tup [], some [.row c (xs.mergeSort fun x y => !(ltOf cf) y x) .own], []⟩ := by
  refine ⟨hfn, fun B vals hm hl hv hW => ?_⟩
  obtain ⟨v0, v1, rfl⟩ : ∃ v0 v1, vals = #[v0, v1] := by
    match vals, hl with
    | ⟨[a, b]⟩, _ => exact ⟨a, b, rfl⟩
  obtain ⟨gi, hg, a, cap, rfl, hc1, hc2, hc3⟩ := (hv 0 _ v0 rfl rfl).slw_inv
  obtain ⟨cvs, rfl, hcl, _⟩ := (hv 1 _ v1 rfl rfl).fn_inv
  have : cvs = #[] := Array.eq_empty_of_size_eq_zero hcl.symm
  subst this
  obtain ⟨g', hg', hL, hs, hn, hlive, hcells⟩ := hW.objs 0 _ rfl
  rw [hg] at hg'; cases hg'
  have hn : gi.L * gi.s ≤ gi.n := by rcases hn with h | h; cases h; exact h
  have hsz : E.sz c = gi.s := hs.symm
  cases hxs : xs with
  | nil =>
    subst hxs
    have h0 : gi.L = 0 := by rw [hL]; rfl
    rw [h0]
    have := AnyF.slices_SortFunc_none { L with } a cap (.func (.func g) #[] #[]) B.w
    rw [hf] at this
    refine this.mono ?_
    rintro e w' ⟨rfl, rfl⟩
    refine ⟨_, B.φ, B.M, rfl, .tup rfl (fun i tv v h => by simp at h), ?_⟩
    simpa using hW
  | cons x0 r =>
    have hL1 : 1 ≤ gi.L := by rw [hL, hxs]; simp
    have hcap : cap ≠ 0 := by omega
    rcases hc3 with h | ⟨rfl, hc3⟩
    · exact absurd h hcap
    have hb : gi.b < B.w.heap.size := by
      have hlt : 0 < gi.n := by
        have := hE.toEncOk.pos c
        have h2 : 1 * 1 ≤ gi.L * gi.s := Nat.mul_le_mul hL1 (by omega)
        omega
      obtain ⟨⟨v, hv⟩, _⟩ := hlive 0 hlt
      exact size_of_cell hv
    -- the elements with their values
    have hex : ∀ i : Fin xs.length, ∃ p : ElV E B.M c, p.1.1 = xs[i] ∧ ∀ j : Nat, j < E.sz c → B.w.cell? (at_ gi.b (i * gi.s + j)) = (p.1.2)[j]? := by
      intro i
      have hx : xs[i.1]? = some xs[i] := List.getElem?_eq_getElem i.2
      have hv : ∀ j : Fin (E.sz c), ∃ v, B.w.cell? (at_ gi.b (i * gi.s + j)) = some v ∧ ∃ tv, (E.enc c xs[i])[j.1]? = some tv ∧ CR E B.M tv v := by
        intro j
        have hj : j.1 < (E.enc c xs[i]).length := by rw [hE.toEncOk.len]; exact j.2
        obtain ⟨v, h1, h2⟩ := hcells i.1 _ j.1 _ hx (List.getElem?_eq_getElem hj)
        exact ⟨v, h1, _, List.getElem?_eq_getElem hj, h2⟩
      let vs : List Value := List.ofFn fun j => Classical.choose (hv j)
      have hvs : ∀ j (hj : j < E.sz c), vs[j]? = some (Classical.choose (hv ⟨j, hj⟩)) := by
        intro j hj
        simp [vs, hj]
      have hvl : vs.length = E.sz c := by simp [vs]
      refine ⟨⟨(xs[i], vs), hvl, fun v hv' => ?_, fun j tv v h1 h2 => ?_⟩, rfl, fun j hj => ?_⟩
      · obtain ⟨j, hj, rfl⟩ := List.mem_iff_getElem.1 hv'
        have hj' : j < E.sz c := by rw [← hvl]; exact hj
        have e := hvs j hj'
        rw [List.getElem?_eq_getElem hj] at e
        injection e with e
        rw [e]
        obtain ⟨_, tv, h1, h2⟩ := Classical.choose_spec (hv ⟨j, hj'⟩)
        exact oneCell_of_CR h2 (hE.pure c _ tv (List.mem_of_getElem? h1))
      · have hj' : j < E.sz c := by rw [← hE.toEncOk.len c xs[i]]; exact (List.getElem?_eq_some_iff.1 h1).1
        rw [hvs j hj'] at h2
        cases h2
        obtain ⟨_, tv', h3, h4⟩ := Classical.choose_spec (hv ⟨j, hj'⟩)
        rw [show (E.enc c xs[i])[j]? = some tv from h1] at h3
        cases h3
        exact h4
      · rw [hvs j hj]
        exact (Classical.choose_spec (hv ⟨j, hj⟩)).1
    let α := ElV E B.M c
    haveI : Inhabited α := ⟨Classical.choose (hex ⟨0, by rw [hxs]; simp⟩)⟩
    let d : Array α := Array.ofFn fun i => Classical.choose (hex i)
    have hdsz : d.size = xs.length := by simp [d]
    have hdat : ∀ i (hi : i < xs.length), d[i]! = Classical.choose (hex ⟨i, hi⟩) := by
      intro i hi
      rw [getElem!_pos d i (by rw [hdsz]; exact hi)]
      simp [d]
    have hdlist : d.toList.map (fun p => p.1.1) = xs := by
      refine List.ext_getElem (by simp [d]) fun i h1 h2 => ?_
      simp only [List.getElem_map, Array.getElem_toList]
      have := (Classical.choose_spec (hex ⟨i, h2⟩)).1
      simpa [d] using this
    let encV : α → List Value := fun p => p.1.2
    have hH : HoldsK encV (E.sz c) B.w gi.b 0 d := by
      intro t ht
      rw [size_flatK] at ht
      rw [get_flatK _ _ _ _ ht]
      have hpos := hE.toEncOk.pos c
      have hi : t / E.sz c < xs.length := by
        rw [← hdsz]; exact Nat.div_lt_of_lt_mul (by rw [Nat.mul_comm]; exact ht)
      have hj : t % E.sz c < E.sz c := Nat.mod_lt _ hpos
      have et : t / E.sz c * gi.s + t % E.sz c = t := by rw [← hsz, Nat.mul_comm]; exact Nat.div_add_mod t (E.sz c)
      have hsp := (Classical.choose_spec (hex ⟨t / E.sz c, hi⟩)).2 _ hj
      simp only [et] at hsp
      have ht' : t < gi.n := by
        have : d.size * E.sz c = gi.L * gi.s := by rw [hdsz, hL, hsz]
        omega
      refine ⟨?_, ?_⟩
      · rw [Nat.zero_add]
        show B.w.cell? (at_ gi.b t) = _
        rw [hsp, hdat _ hi]
        show _ = some (id _)
        have hl : t % E.sz c < (Classical.choose (hex ⟨t / E.sz c, hi⟩)).1.2.length := by rw [(Classical.choose (hex ⟨t / E.sz c, hi⟩)).2.1]; exact hj
        rw [List.getElem?_eq_getElem hl]
        exact congrArg some (getElem!_pos (Classical.choose (hex ⟨t / E.sz c, hi⟩)).1.2 (t % E.sz c) hl).symm
      · rw [Nat.zero_add]
        exact (hlive t ht').2
    have hcon := AnyQ.slices_SortFunc L (E.sz c) aE zE encV (fun p => p.2.1) (fun p => p.2.2.1) (fun p q => cf p.1.1 q.1.1)
      ⟨fun x => hO.irrefl x.1.1, fun x y z => hO.trans x.1.1 y.1.1 z.1.1, fun x y z => hO.ntrans x.1.1 y.1.1 z.1.1⟩ g #[] gi.b 0 cap d B.w eg
      (by
        intro m os dk hdk x y
        have hM : ∀ b off v, B.M b off = some v → (sortWorldK encV (E.sz c) B.w gi.b 0 m dk os).cell? (at_ b off) = some v := by
          intro b off v hv
          have hc := hW.mval b off v hv
          have hbl := size_of_cell hc
          have hne : b ≠ gi.b ∨ gi.n ≤ 0 := by
            by_cases e : b = gi.b
            · right
              subst e
              rcases Nat.eq_zero_or_pos gi.n with h | h
              · omega
              · have := hW.mdis 0 _ gi.b 0 off rfl (claim_own hg (by omega)) (Nat.zero_le _)
                rw [hv] at this; cases this
            · exact .inl e
          rcases hne with hne | hne
          · unfold sortWorldK
            rw [cell?_grow _ _ _ (by rw [size_putRowK]; exact hbl), cell?_putRowK_other _ _ _ _ _ _ _ hne]
            exact hc
          · have : 1 * 1 ≤ gi.L * gi.s := Nat.mul_le_mul hL1 (by have := hE.toEncOk.pos c; omega)
            omega
        have key := calls_drawnV (hcmp x.1.1 y.1.1) (sortWorldK encV (E.sz c) B.w gi.b 0 m dk os) (vals := #[.agg (encV x).toArray, .agg (encV y).toArray] ++ #[]) rfl ?_
        · refine key.mono ?_
          rintro e w' ⟨⟨v, φ, M, rfl, hvr⟩, hbel, hdr⟩
          obtain ⟨q, os', e⟩ := grow_of_below hbel hdr
          exact ⟨by rw [hvr.int], q, os', e⟩
        · have one : ∀ p : α, VR E (fun _ => none) (fun b off => (sortWorldK encV (E.sz c) B.w gi.b 0 m dk os).cell? (at_ b off)) (.agg (E.enc c p.1.1)) (.agg (encV p).toArray) := fun p =>
            .agg (by simp [encV, p.2.1, hE.toEncOk.len]) fun i tv v h1 h2 => .pure ((p.2.2.2 i tv v h1 (by simpa using h2)).mono hM)
          intro i tv v h1 h2
          match i with
          | 0 => simp at h1 h2; subst h1; subst h2; exact one x
          | 1 => simp at h1 h2; subst h1; subst h2; exact one y
          | i + 2 => simp at h1)
      hH hb (by rw [hdsz]; exact hlen)
    rw [hf, hdsz, ← hL] at hcon
    have hat : at_ gi.b (0 * gi.s) = ⟨gi.b, 0, none⟩ := by rw [Nat.zero_mul]; rfl
    rw [hat]
    refine hcon.mono ?_
    rintro e w' ⟨rfl, d', n, os, hp, hso, rfl⟩
    have hd'sz : d'.size = xs.length := by rw [hp.1, hdsz]
    -- the sorted list
    have hxs' : d'.toList.map (fun p => p.1.1) = xs.mergeSort fun x y => !(ltOf cf) y x := by
      haveI : Inhabited (S.El c) := ⟨x0⟩
      have hpl : (d'.toList.map fun p => p.1.1).Perm xs := by
        have h2 := hp.2.2
        have e1 : d'.extract 0 gi.L = d' := by rw [hL, ← hd'sz]; exact Array.extract_size
        have e2 : d.extract 0 gi.L = d := by rw [hL, ← hdsz]; exact Array.extract_size
        rw [e1, e2] at h2
        have := h2.map (fun p : α => p.1.1)
        rw [hdlist] at this
        exact this
      have := sorted_unique_holds (lt := ltOf cf) hO hT xs.toArray (d'.toList.map fun p => p.1.1).toArray ⟨by simp [hd'sz], ?_, ?_⟩ ?_
      · simpa using this
      · intro i hi
        have h1 : xs.length ≤ i := by rcases hi with h | h; omega; simpa using h
        have h2 : ¬ i < d'.size := by omega
        simp [h1, h2]
      · have e1 : ((d'.toList.map fun p => p.1.1).toArray.extract 0 xs.toArray.size) = (d'.toList.map fun p => p.1.1).toArray := by
          have : xs.toArray.size = (d'.toList.map fun p => p.1.1).toArray.size := by simp [hd'sz]
          rw [this]; exact Array.extract_size
        rw [e1, Array.extract_size]
        exact hpl
      · intro i j h0 hij hj
        have hj' : j < d'.size := by rw [hd'sz]; simpa using hj
        have hi' : i < d'.size := by omega
        have := hso i j h0 hij (by rw [hL]; simpa using hj)
        rw [getElem!_pos d' j hj', getElem!_pos d' i hi'] at this
        rw [getElem!_pos _ j (by simpa using hj'), getElem!_pos _ i (by simpa using hi')]
        simp only [List.getElem_toArray, List.getElem_map, Array.getElem_toList]
        exact this
    rw [← hxs, ← hxs']
    have hH' := holdsK_sortWorldK_c encV (E.sz c) B.w gi.b 0 d d' n os hH hb (by rw [hd'sz, hdsz])
    have hdL : d'.size * E.sz c = gi.L * gi.s := by rw [hd'sz, hL, hsz]
    have froz : ∀ off, (sortWorldK encV (E.sz c) B.w gi.b 0 n d' os).frozen? (at_ gi.b off) = B.w.frozen? (at_ gi.b off) := by
      intro off
      unfold sortWorldK
      rw [frozen?_grow _ _ _ (by rw [size_putRowK]; exact hb)]
      unfold putRowK
      rw [frozen?_putRow]; rfl
    have htT : ∀ nm x, ([TE.Obj.row c (d'.toList.map fun p => p.1.1) RM.own] : List (TE.Obj S))[nm]? = some x → nm = 0 ∧ x = .row c (d'.toList.map fun p => p.1.1) .own := by
      intro nm x h
      cases nm with
      | zero => simp at h; exact ⟨rfl, h.symm⟩
      | succ nm => simp at h
    have hgn : gi.n ≠ 0 := by
      have : 1 * 1 ≤ gi.L * gi.s := Nat.mul_le_mul hL1 (by have := hE.toEncOk.pos c; omega)
      omega
    refine ⟨_, B.φ, B.M, rfl, .tup rfl (fun i tv v h => by simp at h), ?_⟩
    show RelW E B (fun i : Nat => ([TE.Obj.row c (d'.toList.map fun p => p.1.1) RM.own] : List (TE.Obj S))[i]?) _ B.φ B.M
    refine hW.step (hdr := ?_) hE.toEncOk (· = 0) (· = gi.b) (Phi.le_refl _) (Mem.le_refl _) (size_sortWorldK_c _ _ _ _ _ _ _ _) rfl rfl rfl (fun b hbl hne => ?_) (fun b hbe => ?_) (fun b off hd => absurd rfl hd) (fun b off v h1 h2 => by rw [h1] at h2; cases h2)
      (fun nm hne => ⟨?_, rfl⟩) (fun nm x h0 hx => ?_) (fun nm h0 hx => ?_) (fun nm x b fr h0 hx hcl => ?_) (fun n1 n2 _ _ _ _ _ h1 h2 _ _ _ _ => by rw [h1, h2]) (fun _ _ => rfl)
    · show (sortWorldK encV (E.sz c) B.w gi.b 0 n d' os).heap[b]? = _
      unfold sortWorldK putRowK putRow mapBlock grow
      simp only [Array.getElem?_append, Array.size_modify, Array.getElem?_modify]
      rw [if_pos (show b < (Sort.ahead B.w n).heap.size from hbl), if_neg (fun e => hne e.symm)]
      rfl
    · exact ⟨0, _, 0, rfl, rfl, by rw [hbe]; exact claim_own hg hgn, fun off h => absurd h (Nat.not_lt_zero _)⟩
    · show ([TE.Obj.row c (d'.toList.map fun p => p.1.1) RM.own] : List (TE.Obj S))[nm]? = ([TE.Obj.row c xs RM.own] : List (TE.Obj S))[nm]?
      cases nm with
      | zero => exact absurd rfl hne
      | succ nm => simp
    · obtain ⟨rfl, rfl⟩ := htT nm x hx
      refine ⟨gi, hg, by rw [hL]; simp [hd'sz], hs, .inr hn, fun j hj => ?_, fun i x j tv hxi hj => ?_⟩
      · refine ⟨?_, by rw [froz]; exact (hlive j hj).2⟩
        by_cases hlt : j < d'.size * E.sz c
        · have := (hH' j (by rw [size_flatK]; exact hlt)).1
          rw [Nat.zero_add] at this
          exact ⟨_, this⟩
        · obtain ⟨v, hv⟩ := (hlive j hj).1
          refine ⟨v, ?_⟩
          unfold sortWorldK
          rw [cell?_grow _ _ _ (by rw [size_putRowK]; exact hb)]
          unfold putRowK
          rw [cell?_putRow_other _ _ _ _ _ _ (.inr (.inr (by rw [size_flatK, Nat.zero_add]; show _ ≤ j; omega)))]
          exact hv
      · rw [List.getElem?_map] at hxi
        obtain ⟨p, hp', rfl⟩ := Option.map_eq_some_iff.1 hxi
        have hi : i < d'.size := by
          have := (List.getElem?_eq_some_iff.1 hp').1
          simpa using this
        have hpe : d'[i]! = p := by
          rw [getElem!_pos d' i hi]
          rw [List.getElem?_eq_getElem (by simpa using hi)] at hp'
          simpa using hp'
        have hjl : j < E.sz c := by rw [← hE.toEncOk.len c p.1.1]; exact (List.getElem?_eq_some_iff.1 hj).1
        have := (hH'.cell hi hjl).1
        rw [hpe, Nat.zero_add, show i * E.sz c + j = i * gi.s + j by rw [hsz]] at this
        have hpl : j < p.1.2.length := by rw [p.2.1]; exact hjl
        refine ⟨_, this, p.2.2.2 j tv _ hj ?_⟩
        rw [List.getElem?_eq_getElem hpl]
        exact congrArg some (getElem!_pos p.1.2 j hpl).symm
    · subst h0; simp at hx
    · obtain ⟨rfl, rfl⟩ := htT nm x hx
      rw [claim_own hg hgn] at hcl
      cases hcl
      exact ⟨Nat.lt_of_lt_of_le hb (size_sortWorldK_c _ _ _ _ _ _ _ _), .inr ⟨0, _, 0, rfl, rfl, claim_own hg hgn⟩, fun off h => hW.mdis 0 _ gi.b 0 off rfl (claim_own hg hgn) h⟩
    · show B.w.drawn ≤ B.w.drawn + n
      omega
end
end TE
