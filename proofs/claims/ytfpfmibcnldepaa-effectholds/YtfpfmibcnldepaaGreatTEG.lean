/- TE: slices.SortFunc at elements of one cell, by the kit's contract. -/
import Derived.Test.YtfpfmibcnldepaaGreatTE24
namespace TE
open Go Go.Proofs Go.Shelf Go.RowKit Go.Lib Go.Sort
variable {S : Sig} {E : Env S}
/-- An element of one cell with its value. -/
def ElV1 (E : Env S) (M : Mem) (c : S.K) (xs : List (S.El c)) : Type := {p : S.El c × Value // p.2.oneCell' = true ∧ (∀ tv : TV S, (E.enc c p.1)[0]? = some tv → CR E M tv p.2) ∧ p.1 ∈ xs}
section
variable {ρ : Ren} {f g : FuncId} {c : S.K} {cf : S.El c → S.El c → Int} {xs : List (S.El c)}

theorem sort_call1 (hE : EnvOk E) (hz1 : E.sz c = 1) (L : SlLaysF.n6 E.P ρ) (hf : ρ.f 6 = f)
    (hO : SWO (ltOf cf)) (hT : ∀ x y, ltOf cf x y = false → ltOf cf y x = false → x = y) (eg : ∀ args w, (callFunc g args).run E.P w = .ok (.enter g args) w)
    (hcmp : ∀ x ∈ xs, ∀ y ∈ xs, CallOK E g (E.enc c x ++ E.enc c y) [] ⟨.int .i64 (cf x y), some [], []⟩)
    (hfn : ∃ fn, E.P.funcs[f]? = some fn ∧ (fn.name == "runtime.NumGoroutine") = false ∧ fn.body.isNone = false) (hlen : xs.length < 4611686018427387904) :
    CallOK E f [.slw 0, .fn g []] [.row c xs .own] ⟨.tup [], some [.row c (xs.mergeSort fun x y => !(ltOf cf) y x) .own], []⟩ := by
  refine ⟨hfn, fun B vals hm hl hv hW => ?_⟩
  obtain ⟨v0, v1, rfl⟩ : ∃ v0 v1, vals = #[v0, v1] := by
    match vals, hl with
    | ⟨[a, b]⟩, _ => exact ⟨a, b, rfl⟩
  obtain ⟨gi, hg, a, cap, rfl, hc1, hc2, hc3⟩ := (hv 0 _ v0 rfl rfl).slw_inv
  obtain ⟨cvs, rfl, hcl, _⟩ := (hv 1 _ v1 rfl rfl).fn_inv
  have : cvs = #[] := Array.eq_empty_of_size_eq_zero hcl.symm
  subst this
  obtain ⟨g', hg', hL, hs, hn, hlive, hcells⟩ := hW.objs 0 _ rfl
  rw [hg] at hg'; cases hg'
  have hn : gi.L * gi.s ≤ gi.n := by rcases hn with h | h; cases h; exact h
  have hsz : E.sz c = gi.s := hs.symm
  cases hxs : xs with
  | nil =>
    subst hxs
    have h0 : gi.L = 0 := by rw [hL]; rfl
    rw [h0]
    have := AnyF.slices_SortFunc_none { L with } a cap (.func (.func g) #[] #[]) B.w
    rw [hf] at this
    refine this.mono ?_
    rintro e w' ⟨rfl, rfl⟩
    refine ⟨_, B.φ, B.M, rfl, .tup rfl (fun i tv v h => by simp at h), ?_⟩
    simpa using hW
  | cons x0 r =>
    have hL1 : 1 ≤ gi.L := by rw [hL, hxs]; simp
    have hcap : cap ≠ 0 := by omega
    rcases hc3 with h | ⟨rfl, hc3⟩
    · exact absurd h hcap
    have hb : gi.b < B.w.heap.size := by
      have hlt : 0 < gi.n := by
        have := hE.toEncOk.pos c
        have h2 : 1 * 1 ≤ gi.L * gi.s := Nat.mul_le_mul hL1 (by omega)
        omega
      obtain ⟨⟨v, hv⟩, _⟩ := hlive 0 hlt
      exact size_of_cell hv
    have hgs : gi.s = 1 := by rw [← hsz, hz1]
    have one1 : ∀ x : S.El c, ∃ tv, E.enc c x = [tv] := fun x => by
      have := hE.toEncOk.len c x
      rw [hz1] at this
      exact List.length_eq_one_iff.1 this
    -- the elements with their values
    have hex : ∀ i : Fin xs.length, ∃ p : ElV1 E B.M c xs, p.1.1 = xs[i] ∧ B.w.cell? (at_ gi.b i) = some p.1.2 := by
      intro i
      have hx : xs[i.1]? = some xs[i] := List.getElem?_eq_getElem i.2
      obtain ⟨tv, htv⟩ := one1 xs[i]
      obtain ⟨v, h1, h2⟩ := hcells i.1 _ 0 tv hx (by rw [htv]; rfl)
      refine ⟨⟨(xs[i], v), oneCell_of_CR h2 (hE.pure c _ tv (by rw [htv]; simp)), fun tv' h3 => ?_, List.getElem_mem _⟩, rfl, ?_⟩
      · rw [show E.enc c xs[i] = [tv] from htv] at h3
        cases h3
        exact h2
      · rw [hgs, Nat.mul_one, Nat.add_zero] at h1
        exact h1
    let α := ElV1 E B.M c xs
    haveI : Inhabited α := ⟨Classical.choose (hex ⟨0, by rw [hxs]; simp⟩)⟩
    let d : Array α := Array.ofFn fun i => Classical.choose (hex i)
    have hdsz : d.size = xs.length := by simp [d]
    have hdat : ∀ i (hi : i < xs.length), d[i]! = Classical.choose (hex ⟨i, hi⟩) := by
      intro i hi
      rw [getElem!_pos d i (by rw [hdsz]; exact hi)]
      simp [d]
    have hdlist : d.toList.map (fun p => p.1.1) = xs := by
      refine List.ext_getElem (by simp [d]) fun i h1 h2 => ?_
      simp only [List.getElem_map, Array.getElem_toList]
      have := (Classical.choose_spec (hex ⟨i, h2⟩)).1
      simpa [d] using this
    let encV : α → Value := fun p => p.1.2
    have hH : Holds encV B.w gi.b 0 d := by
      intro j hj
      have hi : j < xs.length := by rw [← hdsz]; exact hj
      have hsp := (Classical.choose_spec (hex ⟨j, hi⟩)).2
      refine ⟨?_, ?_⟩
      · rw [Nat.zero_add, hdat _ hi]
        exact hsp
      · rw [Nat.zero_add]
        refine (hlive j ?_).2
        have : gi.L * gi.s ≤ gi.n := hn
        rw [hgs, Nat.mul_one, hL] at this
        omega
    have hcon := Any.slices_SortFunc L encV (fun p => p.2.1) (fun p q => cf p.1.1 q.1.1)
      ⟨fun x => hO.irrefl x.1.1, fun x y z => hO.trans x.1.1 y.1.1 z.1.1, fun x y z => hO.ntrans x.1.1 y.1.1 z.1.1⟩ g #[] gi.b 0 cap d B.w eg
      (by
        intro m os dk hdk x y
        have hM : ∀ b off v, B.M b off = some v → (sortWorld encV B.w gi.b 0 m dk os).cell? (at_ b off) = some v := by
          intro b off v hv
          have hc := hW.mval b off v hv
          have hbl := size_of_cell hc
          have hne : b ≠ gi.b ∨ gi.n ≤ 0 := by
            by_cases e : b = gi.b
            · right
              subst e
              rcases Nat.eq_zero_or_pos gi.n with h | h
              · omega
              · have := hW.mdis 0 _ gi.b 0 off rfl (claim_own hg (by omega)) (Nat.zero_le _)
                rw [hv] at this; cases this
            · exact .inl e
          rcases hne with hne | hne
          · unfold sortWorld
            rw [cell?_grow _ _ _ (by rw [Go.Sort.size_putRow]; exact hbl), cell?_putRow_other _ _ _ _ _ _ (.inl hne)]
            exact hc
          · have : 1 * 1 ≤ gi.L * gi.s := Nat.mul_le_mul hL1 (by have := hE.toEncOk.pos c; omega)
            omega
        have key := calls_drawnV (hcmp x.1.1 x.2.2.2 y.1.1 y.2.2.2) (sortWorld encV B.w gi.b 0 m dk os) (vals := #[encV x, encV y] ++ #[]) (by obtain ⟨a, ha⟩ := one1 x.1.1; obtain ⟨b, hb⟩ := one1 y.1.1; rw [ha, hb]; rfl) ?_
        · refine key.mono ?_
          rintro e w' ⟨⟨v, φ, M, rfl, hvr⟩, hbel, hdr⟩
          obtain ⟨q, os', e⟩ := grow_of_below hbel hdr
          exact ⟨by rw [hvr.int], q, os', e⟩
        · have one : ∀ (p : α) (tv : TV S), (E.enc c p.1.1)[0]? = some tv → VR E (fun _ => none) (fun b off => (sortWorld encV B.w gi.b 0 m dk os).cell? (at_ b off)) tv (encV p) := fun p tv h => .pure ((p.2.2.1 tv h).mono hM)
          obtain ⟨a1, ha⟩ := one1 x.1.1
          obtain ⟨b1, hb1⟩ := one1 y.1.1
          intro i tv v h1 h2
          rw [ha, hb1] at h1
          match i with
          | 0 => simp at h1 h2; subst h1; subst h2; exact one x _ (by rw [ha]; rfl)
          | 1 => simp at h1 h2; subst h1; subst h2; exact one y _ (by rw [hb1]; rfl)
          | i + 2 => simp at h1)
      hH hb (by rw [hdsz]; exact hlen)
    rw [hf, hdsz, ← hL] at hcon
    have hat : at_ gi.b (0 * gi.s) = ⟨gi.b, 0, none⟩ := by rw [Nat.zero_mul]; rfl
    rw [hat]
    refine hcon.mono ?_
    rintro e w' ⟨rfl, d', n, os, hp, hso, rfl⟩
    have hd'sz : d'.size = xs.length := by rw [hp.1, hdsz]
    -- the sorted list
    have hxs' : d'.toList.map (fun p => p.1.1) = xs.mergeSort fun x y => !(ltOf cf) y x := by
      haveI : Inhabited (S.El c) := ⟨x0⟩
      have hpl : (d'.toList.map fun p => p.1.1).Perm xs := by
        have h2 := hp.2.2
        have e1 : d'.extract 0 gi.L = d' := by rw [hL, ← hd'sz]; exact Array.extract_size
        have e2 : d.extract 0 gi.L = d := by rw [hL, ← hdsz]; exact Array.extract_size
        rw [e1, e2] at h2
        have := h2.map (fun p : α => p.1.1)
        rw [hdlist] at this
        exact this
      have := sorted_unique_holds (lt := ltOf cf) hO hT xs.toArray (d'.toList.map fun p => p.1.1).toArray ⟨by simp [hd'sz], ?_, ?_⟩ ?_
      · simpa using this
      · intro i hi
        have h1 : xs.length ≤ i := by rcases hi with h | h; omega; simpa using h
        have h2 : ¬ i < d'.size := by omega
        simp [h1, h2]
      · have e1 : ((d'.toList.map fun p => p.1.1).toArray.extract 0 xs.toArray.size) = (d'.toList.map fun p => p.1.1).toArray := by
          have : xs.toArray.size = (d'.toList.map fun p => p.1.1).toArray.size := by simp [hd'sz]
          rw [this]; exact Array.extract_size
        rw [e1, Array.extract_size]
        exact hpl
      · intro i j h0 hij hj
        have hj' : j < d'.size := by rw [hd'sz]; simpa using hj
        have hi' : i < d'.size := by omega
        have := hso i j h0 hij (by rw [hL]; simpa using hj)
        rw [getElem!_pos d' j hj', getElem!_pos d' i hi'] at this
        rw [getElem!_pos _ j (by simpa using hj'), getElem!_pos _ i (by simpa using hi')]
        simp only [List.getElem_toArray, List.getElem_map, Array.getElem_toList]
        exact this
    rw [← hxs, ← hxs']
    have hH' := holds_sortWorld encV B.w gi.b 0 n d d' os hb hH (by rw [hd'sz, hdsz])
    have hdL : d'.size = gi.L * gi.s := by rw [hd'sz, hL, hgs, Nat.mul_one]
    have froz : ∀ off, (sortWorld encV B.w gi.b 0 n d' os).frozen? (at_ gi.b off) = B.w.frozen? (at_ gi.b off) := by
      intro off
      unfold sortWorld
      rw [frozen?_grow _ _ _ (by rw [Go.Sort.size_putRow]; exact hb)]
      rw [frozen?_putRow]; rfl
    have htT : ∀ nm x, ([TE.Obj.row c (d'.toList.map fun p => p.1.1) RM.own] : List (TE.Obj S))[nm]? = some x → nm = 0 ∧ x = .row c (d'.toList.map fun p => p.1.1) .own := by
      intro nm x h
      cases nm with
      | zero => simp at h; exact ⟨rfl, h.symm⟩
      | succ nm => simp at h
    have hgn : gi.n ≠ 0 := by
      have : 1 * 1 ≤ gi.L * gi.s := Nat.mul_le_mul hL1 (by have := hE.toEncOk.pos c; omega)
      omega
    refine ⟨_, B.φ, B.M, rfl, .tup rfl (fun i tv v h => by simp at h), ?_⟩
    show RelW E B (fun i : Nat => ([TE.Obj.row c (d'.toList.map fun p => p.1.1) RM.own] : List (TE.Obj S))[i]?) _ B.φ B.M
    refine hW.step (hdr := ?_) hE.toEncOk (· = 0) (· = gi.b) (Phi.le_refl _) (Mem.le_refl _) (by unfold sortWorld; rw [size_grow, Go.Sort.size_putRow]; exact Nat.le_add_right _ _) rfl rfl rfl (fun b hbl hne => ?_) (fun b hbe => ?_) (fun b off hd => absurd rfl hd) (fun b off v h1 h2 => by rw [h1] at h2; cases h2)
      (fun nm hne => ⟨?_, rfl⟩) (fun nm x h0 hx => ?_) (fun nm h0 hx => ?_) (fun nm x b fr h0 hx hcl => ?_) (fun n1 n2 _ _ _ _ _ h1 h2 _ _ _ _ => by rw [h1, h2]) (fun _ _ => rfl)
    · show (sortWorld encV B.w gi.b 0 n d' os).heap[b]? = _
      unfold sortWorld putRow mapBlock grow
      simp only [Array.getElem?_append, Array.size_modify, Array.getElem?_modify]
      rw [if_pos (show b < (Sort.ahead B.w n).heap.size from hbl), if_neg (fun e => hne e.symm)]
      rfl
    · exact ⟨0, _, 0, rfl, rfl, by rw [hbe]; exact claim_own hg hgn, fun off h => absurd h (Nat.not_lt_zero _)⟩
    · show ([TE.Obj.row c (d'.toList.map fun p => p.1.1) RM.own] : List (TE.Obj S))[nm]? = ([TE.Obj.row c xs RM.own] : List (TE.Obj S))[nm]?
      cases nm with
      | zero => exact absurd rfl hne
      | succ nm => simp
    · obtain ⟨rfl, rfl⟩ := htT nm x hx
      refine ⟨gi, hg, by rw [hL]; simp [hd'sz], hs, .inr hn, fun j hj => ?_, fun i x j tv hxi hj => ?_⟩
      · refine ⟨?_, by rw [froz]; exact (hlive j hj).2⟩
        by_cases hlt : j < d'.size
        · have := (hH' j hlt).1
          rw [Nat.zero_add] at this
          exact ⟨_, this⟩
        · obtain ⟨v, hv⟩ := (hlive j hj).1
          refine ⟨v, ?_⟩
          unfold sortWorld
          rw [cell?_grow _ _ _ (by rw [Go.Sort.size_putRow]; exact hb)]
          rw [cell?_putRow_other _ _ _ _ _ _ (.inr (.inr (by rw [Nat.zero_add]; show _ ≤ j; omega)))]
          exact hv
      · rw [List.getElem?_map] at hxi
        obtain ⟨p, hp', rfl⟩ := Option.map_eq_some_iff.1 hxi
        have hi : i < d'.size := by
          have := (List.getElem?_eq_some_iff.1 hp').1
          simpa using this
        have hpe : d'[i]! = p := by
          rw [getElem!_pos d' i hi]
          rw [List.getElem?_eq_getElem (by simpa using hi)] at hp'
          simpa using hp'
        obtain ⟨a1, ha⟩ := one1 p.1.1
        have hj0 : j = 0 := by
          have := (List.getElem?_eq_some_iff.1 hj).1
          rw [ha] at this; simpa using this
        subst hj0
        have := (hH' i hi).1
        rw [hpe, Nat.zero_add] at this
        refine ⟨encV p, ?_, p.2.2.1 tv hj⟩
        rw [hgs, Nat.mul_one, Nat.add_zero]
        exact this
    · subst h0; simp at hx
    · obtain ⟨rfl, rfl⟩ := htT nm x hx
      rw [claim_own hg hgn] at hcl
      cases hcl
      exact ⟨Nat.lt_of_lt_of_le hb (by unfold sortWorld; rw [size_grow, Go.Sort.size_putRow]; exact Nat.le_add_right _ _), .inr ⟨0, _, 0, rfl, rfl, claim_own hg hgn⟩, fun off h => hW.mdis 0 _ gi.b 0 off rfl (claim_own hg hgn) h⟩
    · show B.w.drawn ≤ B.w.drawn + n
      omega
end
end TE

