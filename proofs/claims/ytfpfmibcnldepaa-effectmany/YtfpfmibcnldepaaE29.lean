/- EffectMany: effect.Ways of a block that is not cut. -/
import Derived.Test.YtfpfmibcnldepaaE28
set_option maxRecDepth 100000
set_option linter.unusedVariables false
set_option linter.unusedSimpArgs false
namespace Ef
open Go TE Go.Proofs
theorem equal_l0 {R : Type} {N : Nat} {a b : MR} (hab : a.length = b.length) (ha : a.length < 2 ^ 40) {k : Bool → Option R} : ∀ (n i : Nat), i ≤ a.length → a.length - i < n →
    slices_Equal_Mark_l0 N a b ((a.length : Nat) : Int) (k true) (fun (y7 : Bool) => k y7) n (i : Int) = k (decide (a.drop i = b.drop i))
  | 0, _, _, h => by omega
  | n + 1, i, h1, h2 => by
    show slices_Equal_Mark_l0_b N a b ((a.length : Nat) : Int) (k true) (fun (y7 : Bool) => k y7) (slices_Equal_Mark_l0 N a b ((a.length : Nat) : Int) (k true) (fun (y7 : Bool) => k y7) n) (i : Int) = _
    unfold slices_Equal_Mark_l0_b
    by_cases hlt : i < a.length
    · rw [if_pos (by simpa using hlt), at_nat, at_nat]
      obtain ⟨x, hx, hd⟩ := drop_cons hlt
      obtain ⟨y, hy, hd2⟩ := drop_cons (l := b) (i := i) (by omega)
      rw [hx, hy]
      simp only [Option.bind_some, Bool.and_true]
      by_cases e : x = y
      · subst e
        rw [if_neg (by simp)]
        rw [wr _ (by omega) (by omega), show ((i : Int) + 1) = ((i + 1 : Nat) : Int) by omega]
        rw [equal_l0 hab ha n (i + 1) (by omega) (by omega)]
        congr 1
        apply decide_eq_decide.2
        rw [hd, hd2]
        simp
      · have : (!((x.Port == y.Port) && (x.Event == y.Event))) = true := by
          rw [Bool.not_eq_true', ← Bool.not_eq_true]
          intro h
          exact e (eqM_iff.1 h)
        rw [if_pos this]
        congr 1
        symm
        rw [decide_eq_false_iff_not, hd, hd2]
        simp [e]
    · rw [if_neg (by simpa using hlt)]
      congr 1
      symm
      rw [decide_eq_true_eq, List.drop_eq_nil_of_le (by omega), List.drop_eq_nil_of_le (by omega)]
theorem equal_eq {R : Type} {N : Nat} (hN : maxRow < N) {a b : MR} (ha : a.length ≤ maxRow) {k : Bool → Option R} : slices_Equal_Mark N a b k = k (decide (a = b)) := by
  unfold slices_Equal_Mark
  by_cases h : a.length = b.length
  · rw [if_neg (by simp [h])]
    simp only [maxRow] at ha hN
    rw [show (0 : Int) = ((0 : Nat) : Int) from rfl, equal_l0 h (by omega) N 0 (by omega) (by omega)]
    rfl
  · rw [if_pos (by simp; omega)]
    congr 1
    symm
    rw [decide_eq_false_iff_not]
    intro e
    exact h (by rw [e])
theorem compact_l0 {R : Type} {N : Nat} (hN : maxRow < N) {s : List MR} (hs : s.length < 2 ^ 40) (hl : ∀ x ∈ s, x.length ≤ maxRow) (hn : s.Nodup) {k : Option R} : ∀ (n i : Nat), 1 ≤ i → i ≤ s.length → s.length - i < n →
    slices_CompactFunc_Mark_l0 N s k n (i : Int) = k
  | 0, _, _, _, h => by omega
  | n + 1, i, h0, h1, h2 => by
    show slices_CompactFunc_Mark_l0_b N s k (slices_CompactFunc_Mark_l0 N s k n) (i : Int) = k
    unfold slices_CompactFunc_Mark_l0_b
    by_cases hlt : i < s.length
    · have hw : IntKind.wrap .i64 ((i : Int) - 1) = ((i - 1 : Nat) : Int) := by rw [wr _ (by omega) (by omega)]; omega
      rw [if_pos (by simpa using hlt), if_pos ⟨by omega, by omega⟩]
      obtain ⟨x, hx, hd⟩ := drop_cons hlt
      obtain ⟨y, hy, hd2⟩ := drop_cons (l := s) (i := i - 1) (by omega)
      rw [Int.toNat_natCast, hx]
      simp only [hw]
      rw [if_pos ⟨by omega, by omega⟩, Int.toNat_natCast, hy]
      simp only []
      rw [equal_eq hN (hl x (get_mem hx))]
      have hne : ¬ x = y := fun e => by
        subst e
        have := nd_inj hn hx hy
        omega
      rw [if_neg (by simpa using hne)]
      rw [wr _ (by omega) (by omega), show ((i : Int) + 1) = ((i + 1 : Nat) : Int) by omega]
      exact compact_l0 hN hs hl hn n (i + 1) (by omega) (by omega) (by omega)
    · rw [if_neg (by simpa using hlt)]
theorem compact_eq {R : Type} {N : Nat} (hN : maxRow < N) {s : List MR} (hs : s.length ≤ maxRow) (hl : ∀ x ∈ s, x.length ≤ maxRow) (hn : s.Nodup) {k : Option R} : slices_CompactFunc_Mark N s k = k := by
  unfold slices_CompactFunc_Mark
  simp only [maxRow] at hs hN
  split
  · rfl
  · rename_i h
    rw [decide_eq_true_eq] at h
    exact compact_l0 (by simpa only [maxRow] using hN) (by omega) hl hn N 1 (by omega) (by omega) (by omega)

/-- The rows that are found, in any order. -/
theorem atV_new {D : List MR} {W : List EntB} {s : SetL} {cl : Nat} {X : List MR} (h : SetIs D s cl X) (hD : D.Nodup) (hW : ∀ v ∈ W, v ∈ s) {e : EntB} (he : e ∈ s) (hne : e ∉ W) {i : Nat} {x : MR} (h1 : e.1 = kI i) (h2 : D[i]? = some x) : ¬ AtV D W x := by
  rintro ⟨e', he', j, h3, h4⟩
  have : j = i := nd_inj hD h4 h2
  subst this
  obtain ⟨⟨js, g1, g2, g3⟩, _, _⟩ := h
  have hkn : (s.map (·.1)).Nodup := by
    rw [g2]
    exact List.pairwise_map.2 (g1.imp fun hne e => hne (kI_inj e))
  have := nodup_inj (f := fun t : EntB => t.1) hkn (hW e' he') he (by rw [h3, h1])
  exact hne (this ▸ he')
theorem srt_sorted (xs : List MR) : (srt xs).Pairwise fun x y => lessM y x = false := by
  unfold srt
  refine (List.pairwise_mergeSort (le := fun x y => !(Go.Proofs.ltOf cM) y x) (fun a b c h1 h2 => ?_) (fun a b => ?_) xs).imp fun {x y} h => ?_
  · rw [lt_cM, Bool.not_eq_true'] at *
    cases h3 : lessM c a with
    | false => rfl
    | true =>
      exfalso
      cases h4 : lessM a b with
      | true => have := lessM_trans _ _ _ h3 h4; rw [this] at h2; cases h2
      | false =>
        have := lessM_tot a b h4 h1
        subst this
        rw [h3] at h2; cases h2
  · rw [lt_cM, lt_cM, Bool.or_eq_true, Bool.not_eq_true', Bool.not_eq_true']
    cases h : lessM b a with
    | false => exact .inl rfl
    | true =>
      refine .inr ?_
      cases h2 : lessM a b with
      | false => rfl
      | true => have := lessM_trans _ _ _ h h2; rw [lessM_irr] at this; cases this
  · rw [lt_cM, Bool.not_eq_true'] at h
    exact h
theorem gd0 : GD [[]] [(⟨0, (⟨0, []⟩ : Mark)⟩ : Next)] [0] [] where
  len := rfl
  z := rfl
  lng := rfl
  nd := by simp
  nx := by intro i y h1 h2; have := get_lt h2; simp at this; omega
  kno := by
    intro p x m h
    have := get_lt h
    simp at this
    subst this
    simp at h
    subst h
    exact ⟨fun j hj => by have h2 := get_lt hj; simp at h2; subst h2; simp at hj, fun _ => rfl⟩
  kz := fun p m h => rfl
  sm := by intro x hx; simp at hx; subst hx; simp
  bnd := by simp [maxRow]
section
variable {N : Nat} (hN : maxRow < N) {V P Tm : List (List UInt8)} {Nd : List Node}
include hN
theorem ways_l0 {D : List MR} {s : BS} {X Y : List MR} (h : GD D s.l s.long s.kn) (ht : SetIs D s.t s.tcl X) (hx : X.length < maxRow) {kp0 : List MR → Option Unit} (hk : ∀ L : List MR, L.Perm X → kp0 L = some ()) :
    effect_Ways_l0 N V P Tm Nd s.many s.l s.long s.kn s.kcl s.both s.t s.tcl s.f s.fcl s.tcl kp0 N ([] : List (List Mark)) [] s.tcl = some () := by
  refine range_ok (σ := List MR) ht.st ht.lt
    (fun n o seen => effect_Ways_l0 N V P Tm Nd s.many s.l s.long s.kn s.kcl s.both s.t s.tcl s.f s.fcl s.tcl kp0 n o seen s.tcl)
    (fun o => kp0 o)
    (fun seen o n52 rec => if s.tcl = s.tcl then (match findB n52.2.2 s.t with
  | some en53 => (effect_rows_marks N (scI en53.1) V P Tm Nd s.many s.l s.long s.kn s.kcl (fun (r54 : List Mark) =>
  if o.length + [r54].length ≤ maxRow then (rec (o ++ [r54])) else none))
  | none => none) else none)
    (fun n o seen => rfl)
    (fun W o => o.Nodup ∧ (∀ x, x ∈ o ↔ AtV D W x) ∧ o.length = W.length) ?_ ?_ N [] ([] : List MR) ⟨List.nodup_nil, fun x => ⟨fun h => by simp at h, fun h => absurd h atV_nil⟩, rfl⟩ (by simp) List.nodup_nil ?_
  · rintro seen W o e rec ⟨h1, h2, h3⟩ hW hWn he hne hrec
    have hlen := V_lt hW hWn he hne
    rw [ht.len] at hlen
    rw [if_pos rfl, findB_mem ht.st he]
    obtain ⟨i, x, h8, h9, h10⟩ := ht.ent he
    simp only []
    rw [h8, scI_kI, rmarks_eq hN h h9, if_pos (by simp; omega)]
    refine hrec _ ⟨?_, fun y => ?_, by simp [h3]⟩
    · rw [List.nodup_append]
      refine ⟨h1, by simp, fun a ha b hb e' => ?_⟩
      simp at hb; subst hb; subst e'
      exact atV_new ht h.nd hW he hne h8 h9 ((h2 a).1 ha)
    · rw [List.mem_append, h2, atV_cons h8 h9]
      simp only [List.mem_cons, List.not_mem_nil, or_false]
      exact Or.comm
  · rintro W o h1 h2 hWn ⟨h3, h4, h5⟩
    exact hk o ((List.perm_ext_iff_of_nodup h3 (ht.nodup h.nd)).2 fun x => by rw [h4, atV_all ht h1 h2])
  · refine Nat.lt_of_le_of_lt (unseen_le _ _) ?_
    rw [ht.len]; omega
def errM : Mark := ⟨-1, [101, 114, 114, 111, 114]⟩
theorem ways_l2 {D : List MR} {s : BS} {X Y : List MR} (h : GD D s.l s.long s.kn) (ht : SetIs D s.f s.fcl Y) (O : List MR) (hx : O.length + Y.length < maxRow) (hs : ∀ x ∈ Y, x.length < maxRow) {kp0 : List MR → Option Unit} (hk : ∀ L : List MR, L.Perm Y → kp0 (O ++ L.map (· ++ [errM])) = some ()) :
    effect_Ways_l2 N V P Tm Nd s.many s.l s.long s.kn s.kcl s.fcl s.f s.fcl kp0 N O [] s.fcl = some () := by
  refine range_ok (σ := List MR) ht.st ht.lt
    (fun n o seen => effect_Ways_l2 N V P Tm Nd s.many s.l s.long s.kn s.kcl s.fcl s.f s.fcl kp0 n o seen s.fcl)
    (fun o => kp0 o)
    (fun seen o n71 rec => if s.fcl = s.fcl then (match findB n71.2.2 s.f with
  | some en72 => (effect_rows_marks N (scI en72.1) V P Tm Nd s.many s.l s.long s.kn s.kcl (fun (r73 : List Mark) =>
  if r73.length + ([(⟨(-1), [101, 114, 114, 111, 114]⟩ : Mark)]).length ≤ maxRow then (if o.length + ([r73 ++ ([(⟨(-1), [101, 114, 114, 111, 114]⟩ : Mark)])]).length ≤ maxRow then (rec (o ++ ([r73 ++ ([(⟨(-1), [101, 114, 114, 111, 114]⟩ : Mark)])]))) else none) else none))
  | none => none) else none)
    (fun n o seen => rfl)
    (fun W o => ∃ L : List MR, o = O ++ L.map (· ++ [errM]) ∧ L.Nodup ∧ (∀ x, x ∈ L ↔ AtV D W x) ∧ L.length = W.length) ?_ ?_ N [] O ⟨[], by simp, List.nodup_nil, fun x => ⟨fun h => by simp at h, fun h => absurd h atV_nil⟩, rfl⟩ (by simp) List.nodup_nil ?_
  · rintro seen W o e rec ⟨L, rfl, h1, h2, h3⟩ hW hWn he hne hrec
    have hlen := V_lt hW hWn he hne
    rw [ht.len] at hlen
    rw [if_pos rfl, findB_mem ht.st he]
    obtain ⟨i, x, h8, h9, h10⟩ := ht.ent he
    simp only []
    have hxl := hs x h10
    rw [h8, scI_kI, rmarks_eq hN h h9, if_pos (by simp; omega), if_pos (by simp; omega)]
    refine hrec _ ⟨L ++ [x], by simp [errM], ?_, fun y => ?_, by simp [h3]⟩
    · rw [List.nodup_append]
      refine ⟨h1, by simp, fun a ha b hb e' => ?_⟩
      simp at hb; subst hb; subst e'
      exact atV_new ht h.nd hW he hne h8 h9 ((h2 a).1 ha)
    · rw [List.mem_append, h2, atV_cons h8 h9]
      simp only [List.mem_cons, List.not_mem_nil, or_false]
      exact Or.comm
  · rintro W o h1 h2 hWn ⟨L, rfl, h3, h4, h5⟩
    exact hk L ((List.perm_ext_iff_of_nodup h3 (ht.nodup h.nd)).2 fun x => by rw [h4, atV_all ht h1 h2])
  · refine Nat.lt_of_le_of_lt (unseen_le _ _) ?_
    rw [ht.len]; omega
/-- What Ways answers where no row fails, and nothing is cut. -/
theorem ways_eq {fl : List Expr → Bool} (hP : P.length < maxRow) {l : List Act} {d e : Nat} (hNe : N = e + 1) (hde : 3 * d ≤ e) (hd : dep N fl d l) (hb : 1 + cst d l ≤ maxRow) {fuel : Int} {b : Bool}
    (hM : code_Block N l V P Tm Nd (fun (r11 : List Ins) => code_Most N r11 (fun (r12 : Int) => some (decide (r12 > fuel)))) = some false) {k0 : List MR → Int → Option Unit}
    (h0 : sp fl P d l initS = none → k0 [] 15 = some ())
    (h1 : ∀ T F L, sp fl P d l initS = some (T, F) → T.Nodup → F.Nodup → (T ++ F.map (· ++ [errM])).Nodup ∧ (L.Perm (T ++ F.map (· ++ [errM])) → L.Pairwise (fun x y => lessM y x = false) → k0 L 0 = some ())) :
    effect_Ways N l V P Tm Nd fuel k0 = some () := by
  unfold effect_Ways effect_rows_inner
  subst hNe
  refine inner_ok (acts_ok hN hP d e hde) hd gd0 false (by simpa using hb) fun D s X Y p q k m => ?_
  have m' : Sim s X Y (sp fl P d l initS) := m
  have hbd := k.gd.bnd
  have hc : (ifB (!s.many) true (code_Block (e + 1) l V P Tm Nd (fun (r11 : List Ins) => code_Most (e + 1) r11 (fun (r12 : Int) => some (decide (r12 > fuel))))) (some false)) = some false := by
    rw [hM]
    cases s.many <;> rfl
  rw [hc, Option.bind_some, if_neg (by simp)]
  cases hm : s.many with
  | true => rw [if_pos rfl]; exact h0 (m'.none_iff hm)
  | false =>
    rw [if_neg (by simp)]
    obtain ⟨T, F, ho, a1, a2, a3, a4⟩ := m'.some_of hm
    obtain ⟨s1, s2⟩ := k.sm hm
    simp only [small, Bool.and_eq_true, decide_eq_true_eq, List.all_eq_true] at s1 s2
    rw [← hm]
    refine ways_l0 hN (s := s) (Y := Y) k.gd k.st (by simp only [maxRow]; omega) fun L hL => ?_
    have hLl := hL.length_eq
    refine ways_l2 hN (s := s) (X := X) k.gd k.sf L (by simp only [maxRow]; omega) (fun x hx => by have := s2.2 x hx; simp only [maxRow]; omega) fun L2 hL2 => ?_
    have hL2l := hL2.length_eq
    have pX : X.Perm T := (List.perm_ext_iff_of_nodup (k.st.nodup k.gd.nd) a3).2 a1
    have pY : Y.Perm F := (List.perm_ext_iff_of_nodup (k.sf.nodup k.gd.nd) a4).2 a2
    have pA : (L ++ L2.map (· ++ [errM])).Perm (T ++ F.map (· ++ [errM])) := (hL.trans pX).append ((hL2.trans pY).map _)
    have sh : ∀ x ∈ L ++ L2.map (· ++ [errM]), x.length ≤ 65 := by
      intro x hx
      rcases List.mem_append.1 hx with hx | hx
      · have := s1.2 x (hL.mem_iff.1 hx); omega
      · obtain ⟨y, hy, rfl⟩ := List.mem_map.1 hx
        have := s2.2 y (hL2.mem_iff.1 hy); simp; omega
    unfold slices_SortFunc_Mark
    rw [if_pos ⟨by simp; omega, by
      rw [List.all_eq_true]
      intro x hx
      have := sh x hx
      exact decide_eq_true (by unfold big; omega)⟩]
    obtain ⟨hnd, hk⟩ := h1 T F (srt (L ++ L2.map (· ++ [errM]))) ho a3 a4
    have pS : (srt (L ++ L2.map (· ++ [errM]))).Perm (L ++ L2.map (· ++ [errM])) := List.mergeSort_perm _ _
    change slices_CompactFunc_Mark _ (srt _) _ = _
    rw [compact_eq hN (by rw [pS.length_eq]; simp; simp only [maxRow]; omega) (fun x hx => by have := sh x (pS.mem_iff.1 hx); simp only [maxRow]; omega) ((pS.trans pA).nodup_iff.2 hnd)]
    refine hk (pS.trans pA) (srt_sorted _)
end
end Ef
