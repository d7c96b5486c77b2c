/- EffectHolds: for every input the law's function answers true. -/
import Derived.Test.YtfpfmibcnldepaaGreatFA
import Derived.Test.YtfpfmibcnldepaaGreatE53x1
set_option maxRecDepth 100000
set_option linter.unusedVariables false
set_option linter.unusedSimpArgs false
set_option linter.unusedSectionVars false
namespace Ef
open Go TE Go.Proofs
abbrev VW : List (List UInt8) := [[120], [121]]
abbrev PW : List (List UInt8) := [[112], [113]]
abbrev TW : List (List UInt8) := [[116]]
section
variable {N : Nat} (hN : maxRow < N)
theorem top_w {R : Type} {l : List Act} {v : Int} {V P T : List (List UInt8)} {Nd : List Node} {kp0 : List Ins → Option R} : ∀ n, code_writer_block_l0 N l v V P T Nd kp0 n = code_writer_block_2_l0 (Fam_code_writer_block_2_at N N) N l v V P T Nd kp0 n
  | 0 => rfl
  | n + 1 => by
    funext i c
    show code_writer_block_l0_b N l v V P T Nd kp0 (code_writer_block_l0 N l v V P T Nd kp0 n) i c = code_writer_block_2_l0_b (Fam_code_writer_block_2_at N N) N l v V P T Nd kp0 (code_writer_block_2_l0 (Fam_code_writer_block_2_at N N) N l v V P T Nd kp0 n) i c
    rw [top_w n]
    rfl
theorem top_r {R : Type} {l : List Act} {V P T : List (List UInt8)} {Nd : List Node} {kp0 : List Ins → Option R} : ∀ n, r16_block_l0 N l V P T Nd kp0 n = r16_block_2_l0 (Fam_r16_block_2_at N N) N l V P T Nd kp0 n
  | 0 => rfl
  | n + 1 => by
    funext i c
    show r16_block_l0_b N l V P T Nd kp0 (r16_block_l0 N l V P T Nd kp0 n) i c = r16_block_2_l0_b (Fam_r16_block_2_at N N) N l V P T Nd kp0 (r16_block_2_l0 (Fam_r16_block_2_at N N) N l V P T Nd kp0 n) i c
    rw [top_r n]
    rfl
include hN
theorem same_eq {R : Type} {a b : MR} (ha : a.length ≤ 2000000) (hb : b.length ≤ 2000000) (k : Bool → Option R) : r30_Same N a b k = k (decide (a = b)) := by
  have hN' := hN
  simp only [maxRow] at hN'
  unfold r30_Same
  rw [rless_eq a b (by omega) (by unfold big; omega)]
  cases h1 : lessM a b with
  | true =>
    have : a ≠ b := fun e => by rw [e, lessM_irr] at h1; cases h1
    rw [decide_eq_false this]; rfl
  | false =>
    rw [show ifB (!false) true (r30_Less N b a (fun (r2 : Bool) => some (!r2))) (some false) = r30_Less N b a (fun (r2 : Bool) => some (!r2)) from rfl]
    rw [rless_eq b a (by omega) (by unfold big; omega), Option.bind_some]
    cases h2 : lessM b a with
    | true =>
      have : a ≠ b := fun e => by rw [e, lessM_irr] at h2; cases h2
      rw [decide_eq_false this]; rfl
    | false => rw [decide_eq_true (lessM_tot a b h1 h2)]; rfl
variable {d3 d7 d8 : Int} {d4 : List Int} {Ra : List Msg} {Fx : List Effc}
theorem fits0 {l : MR} (hl : l.length ≤ 1000) {kp0 : MR → MR → Option Unit} : ∀ (n i : Nat) (r s : MR), i ≤ l.length → l.length - i < n → r.length ≤ i → s.length ≤ i →
    l30_fits_l0 N l d3 d4 Ra Fx d7 d8 kp0 n (i : Int) r s = kp0 (r ++ (l.drop i).filter isR) (s ++ (l.drop i).filter (fun m => !isR m))
  | 0, _, _, _, _, h, _, _ => by omega
  | n + 1, i, r, s, h1, h2, h3, h4 => by
    have hm : maxRow = 68719476736 := rfl
    show l30_fits_l0_b N l d3 d4 Ra Fx d7 d8 kp0 (l30_fits_l0 N l d3 d4 Ra Fx d7 d8 kp0 n) (i : Int) r s = _
    unfold l30_fits_l0_b
    by_cases hi : i < l.length
    · obtain ⟨x, hx, hd⟩ := drop_cons hi
      have hw : IntKind.wrap .i64 ((i : Int) + 1) = ((i + 1 : Nat) : Int) := by rw [wr _ (by omega) (by omega)]; omega
      rw [if_pos (by simpa using hi), at_nat, hx, Option.bind_some, hd, hw]
      by_cases hp : x.Port < 0
      · have e1 : isR x = true := decide_eq_true hp
        rw [if_pos (by simpa using hp), Option.bind_some, if_pos (by simp; omega), fits0 hl n (i + 1) _ _ (by omega) (by omega) (by simp; omega) (by omega)]
        simp [e1]
      · have e1 : isR x = false := decide_eq_false hp
        rw [if_neg (by simpa using hp), Option.bind_some, if_pos (by simp; omega), fits0 hl n (i + 1) _ _ (by omega) (by omega) (by omega) (by simp; omega)]
        simp [e1]
    · rw [if_neg (by simpa using hi), List.drop_eq_nil_of_le (by omega)]
      simp
theorem fits2 (hl : Ra.length ≤ 1000000) {ra se : MR} {kp0 : MR → Option Unit} : ∀ (n i : Nat) (a : MR), i ≤ Ra.length → Ra.length - i < n → a.length ≤ i →
    l30_fits_l2 N d3 d4 Ra Fx d7 d8 ra se kp0 n (i : Int) a = kp0 (a ++ (Ra.drop i).map (fun x => ⟨-1, x.Event⟩))
  | 0, _, _, _, h, _ => by omega
  | n + 1, i, a, h1, h2, h3 => by
    have hm : maxRow = 68719476736 := rfl
    show l30_fits_l2_b N d3 d4 Ra Fx d7 d8 ra se kp0 (l30_fits_l2 N d3 d4 Ra Fx d7 d8 ra se kp0 n) (i : Int) a = _
    unfold l30_fits_l2_b
    by_cases hi : i < Ra.length
    · obtain ⟨x, hx, hd⟩ := drop_cons hi
      have hw : IntKind.wrap .i64 ((i : Int) + 1) = ((i + 1 : Nat) : Int) := by rw [wr _ (by omega) (by omega)]; omega
      rw [if_pos (by simpa using hi), at_nat, hx, Option.bind_some, hd, hw, if_pos (by simp; omega), fits2 hl n (i + 1) _ (by omega) (by omega) (by simp; omega)]
      simp
    · rw [if_neg (by simpa using hi), List.drop_eq_nil_of_le (by omega)]
      simp
theorem fits4 (hl : Fx.length ≤ 1000000) {ra se aa : MR} {kp0 : MR → Option Unit} : ∀ (n i : Nat) (a : MR), i ≤ Fx.length → Fx.length - i < n → a.length ≤ i →
    l30_fits_l4 N d3 d4 Ra Fx d7 d8 ra se aa kp0 n (i : Int) a = kp0 (a ++ ((Fx.drop i).filter (fun x => x.Kind == 1)).map (fun x => ⟨x.A, x.Msg.Event⟩))
  | 0, _, _, _, h, _ => by omega
  | n + 1, i, a, h1, h2, h3 => by
    have hm : maxRow = 68719476736 := rfl
    show l30_fits_l4_b N d3 d4 Ra Fx d7 d8 ra se aa kp0 (l30_fits_l4 N d3 d4 Ra Fx d7 d8 ra se aa kp0 n) (i : Int) a = _
    unfold l30_fits_l4_b
    by_cases hi : i < Fx.length
    · obtain ⟨x, hx, hd⟩ := drop_cons hi
      have hw : IntKind.wrap .i64 ((i : Int) + 1) = ((i + 1 : Nat) : Int) := by rw [wr _ (by omega) (by omega)]; omega
      rw [if_pos (by simpa using hi), at_nat, hx, Option.bind_some, hd, hw]
      by_cases hk : x.Kind = 1
      · rw [if_pos (by simpa using hk), Option.bind_some, Option.bind_some, if_pos (by simp; omega), fits4 hl n (i + 1) _ (by omega) (by omega) (by simp; omega)]
        simp [hk]
      · rw [if_neg (by simpa using hk), fits4 hl n (i + 1) _ (by omega) (by omega) (by omega)]
        simp [hk]
    · rw [if_neg (by simpa using hi), List.drop_eq_nil_of_le (by omega)]
      simp
theorem fits15 (hF : Fx.length ≤ 1000000) {ra se aa : MR} (h1 : ra.length ≤ 2000000) (h2 : se.length ≤ 2000000) (h3 : aa.length ≤ 2000000) (k : Bool → Option Unit) :
    l30_fits_c15 N d3 d4 Ra Fx d7 d8 ra se aa k = k (decide (ra = aa) && decide (se = (Fx.filter (fun x => x.Kind == 1)).map (fun x => (⟨x.A, x.Msg.Event⟩ : Mark)))) := by
  have hN' := hN
  simp only [maxRow] at hN'
  unfold l30_fits_c15
  have hb : ((Fx.filter (fun x => x.Kind == 1)).map (fun x => (⟨x.A, x.Msg.Event⟩ : Mark))).length ≤ 1000000 := by
    rw [List.length_map]; exact Nat.le_trans (List.length_filter_le _ _) hF
  refine (fits4 hN hF N 0 [] (by omega) (by omega) (by simp)).trans ?_
  rw [List.drop_zero, List.nil_append, marks_eq ra (by omega) (by unfold big; omega), marks_eq aa (by omega) (by unfold big; omega), same_eq hN h1 h3]
  cases hd : decide (ra = aa) with
  | false => rfl
  | true =>
    rw [ifB_tt, marks_eq se (by omega) (by unfold big; omega), marks_eq _ (by omega) (by unfold big; omega), same_eq hN h2 (by omega), Option.bind_some]
    rfl
/-- What fits answers. -/
theorem fits_eq {l : MR} (hl : l.length ≤ 1000) (hR : Ra.length ≤ 1000000) (hF : Fx.length ≤ 1000000) {w : MR} (tr : TrR Ra Fx w) {v co cd : Int} {Vs : List Int} : ∃ b : Bool, (∀ k : Bool → Option Unit, l30_fits N l v Vs Ra Fx co cd k = k b) ∧ (l = (if cd = 0 then w else w ++ [errM]) → b = true) := by
  have hN' := hN
  have hm : maxRow = 68719476736 := rfl
  simp only [maxRow] at hN'
  have hfl : ∀ f : Mark → Bool, (l.filter f).length ≤ 1000 := fun f => Nat.le_trans (List.length_filter_le _ _) hl
  have e : ∀ k : Bool → Option Unit, l30_fits N l v Vs Ra Fx co cd k = k (decide (l.filter isR = Ra.map (fun x => (⟨-1, x.Event⟩ : Mark)) ++ (if cd = 0 then [] else [errM])) && decide (l.filter (fun m => !isR m) = (Fx.filter (fun x => x.Kind == 1)).map (fun x => (⟨x.A, x.Msg.Event⟩ : Mark)))) := by
    intro k
    unfold l30_fits
    refine (fits0 hN hl N 0 [] [] (by omega) (by omega) (by simp) (by simp)).trans ?_
    refine (fits2 hN hR N 0 [] (by omega) (by omega) (by simp)).trans ?_
    simp only [List.drop_zero, List.nil_append]
    have h1 := hfl isR
    have h2 := hfl (fun m => !isR m)
    by_cases hc : cd = 0
    · rw [if_neg (by simpa using hc), fits15 hN hF (by omega) (by omega) (by simp; omega), if_pos hc, List.append_nil]
    · rw [if_pos (by simpa using hc), if_pos (by simp; omega), fits15 hN hF (by omega) (by omega) (by simp; omega), if_neg hc]
      rfl
  refine ⟨_, e, fun h => ?_⟩
  obtain ⟨t1, t2⟩ := tr
  rw [Bool.and_eq_true, decide_eq_true_eq, decide_eq_true_eq]
  by_cases hc : cd = 0
  · rw [if_pos hc] at h
    rw [if_pos hc, List.append_nil, h]
    exact ⟨t1, t2⟩
  · rw [if_neg hc] at h
    rw [if_neg hc, h, List.filter_append, List.filter_append, t1, t2]
    exact ⟨rfl, by rw [show [errM].filter (fun m => !isR m) = [] from rfl, List.append_nil]⟩
theorem hl0 {L : List MR} (hL : L.length ≤ 1000) {v co cd : Int} {Vs : List Int} {g : MR} (hf : ∀ row ∈ L, ∃ b : Bool, (∀ k : Bool → Option Unit, l30_fits N row v Vs Ra Fx co cd k = k b) ∧ (row = g → b = true)) {kp0 : Option Unit} {kp1 : Bool → Option Unit} :
    ∀ (n i : Nat), L.length - i < n → g ∈ L.drop i → l30_EffectHolds_l0 (l30_EffectHolds_inst N) N L v Vs Ra Fx co cd kp0 kp1 n (i : Int) = kp1 true
  | 0, _, h, _ => by omega
  | n + 1, i, h, hg => by
    show l30_EffectHolds_l0_b (l30_EffectHolds_inst N) N L v Vs Ra Fx co cd kp0 kp1 (l30_EffectHolds_l0 (l30_EffectHolds_inst N) N L v Vs Ra Fx co cd kp0 kp1 n) (i : Int) = kp1 true
    unfold l30_EffectHolds_l0_b
    have hi : i < L.length := by
      by_cases hi : i < L.length
      · exact hi
      · rw [List.drop_eq_nil_of_le (by omega)] at hg; cases hg
    obtain ⟨x, hx, hd⟩ := drop_cons hi
    obtain ⟨b, f1, f2⟩ := hf x (get_mem hx)
    have hw : IntKind.wrap .i64 ((i : Int) + 1) = ((i + 1 : Nat) : Int) := by rw [wr _ (by omega) (by omega)]; omega
    rw [if_pos (by simpa using hi), at_nat, hx, Option.bind_some]
    refine (f1 _).trans ?_
    cases b with
    | true =>
      rw [if_pos rfl]
      rfl
    | false =>
      rw [if_neg (by simp), hw]
      refine hl0 hL hf n (i + 1) (by omega) ?_
      rw [hd] at hg
      rcases List.mem_cons.1 hg with e | e
      · have := f2 e.symm; cases this
      · exact e
theorem run_goes {R : Type} {P : R → Prop} {c : List Ins} {fl : List Expr → Bool} {pt : List (List UInt8)} (hpt : ∀ x ∈ PWs, 0 ≤ idxS pt x 0) {d : Nat} (hd : d ≤ 10) {l : List Act} {s : Sk} (hl : BOK d l) (hb : BC fl pt c (d + 1) l s 0) (hlen : c.length = s.len) {T F : List MR} (hsp : sp fl pt (d + 1) l initS = some (T, F))
    {fuel v3 v4 v5 r6 r8 r9 : Int} {kp0 : Int → Int → List Int → List Msg → List Effc → List Int → List Int → Option R} {kp1 : Int → Int → List Int → List Msg → List Effc → Option R} (X : Cx P N c fuel kp1 T F s.most)
    (hk0 : ∀ co at_ Vs Ra Fx row rounds w, Ra.length ≤ 1000000 → Fx.length ≤ 1000000 → row.length ≤ 1000000 → TrR Ra Fx w → w ∈ T → Ok P (kp0 co at_ Vs Ra Fx row rounds)) :
    GoAt P N (runc N c fuel v3 v4 v5 r6 r8 r9 kp0 kp1) 0 0 [] [] := by
  have h3 := X.hM
  refine BC.goes X hpt hb hl 0 [] [] initS (T, F) hsp (by simp [initS]) (fun _ h => h) (fun t ht => ⟨t, ht, List.prefix_refl _⟩) (by omega) (by omega) (by simp; omega) (fun w hw => ?_)
  intro n co Vars Ra Fx row a1 a2 a3 a4 a5 tr
  have h1 := X.hN
  obtain ⟨n, rfl⟩ : ∃ q, n = q + 1 := ⟨n - 1, by omega⟩
  show Ok P (r17_Run_l0_b N c fuel v3 v4 v5 r6 r8 r9 kp0 kp1 (r17_Run_l0 N c fuel v3 v4 v5 r6 r8 r9 kp0 kp1 n) (co : Int) ((0 + s.len : Nat) : Int) Vars Ra Fx row [])
  have c1 : decide (((0 + s.len : Nat) : Int) ≥ 0) = true := decide_eq_true (by omega)
  have c2 : decide (((0 + s.len : Nat) : Int) < ((c.length : Nat) : Int)) = false := decide_eq_false (by omega)
  unfold r17_Run_l0_b
  rw [c1, c2, ifB_tt, Option.bind_some, if_neg (by simp)]
  exact hk0 _ _ _ _ _ _ _ w (by omega) (by omega) (by omega) tr hw
theorem run_top {R : Type} {P : R → Prop} {c : List Ins} {fl : List Expr → Bool} {pt : List (List UInt8)} (hpt : ∀ x ∈ PWs, 0 ≤ idxS pt x 0) {d : Nat} (hd : d ≤ 10) {l : List Act} {s : Sk} (hl : BOK d l) (hb : BC fl pt c (d + 1) l s 0) (hlen : c.length = s.len) (hc : c.length ≤ 900000) (hm : s.most ≤ 900000) {T F : List MR} (hsp : sp fl pt (d + 1) l initS = some (T, F)) {Vars : List Int} (hV : Vars.length ≤ 1000) {arg fuel : Int}
    {K : Int → List Int → List Msg → List Effc → Int → Int → Option R}
    (hK : ∀ v Vs Ra Fx co cd w, Ra.length ≤ 1000000 → Fx.length ≤ 1000000 → TrR Ra Fx w → ((cd = 0 ∧ w ∈ T) ∨ (cd ≠ 0 ∧ (w ∈ F ∨ (fuel < (s.most : Int) ∧ ∃ t ∈ T, w <+: t)))) → Ok P (K v Vs Ra Fx co cd)) : Ok P (r17_Run N c Vars arg fuel K) := by
  have hN' := hN
  have hmr : maxRow = 68719476736 := rfl
  simp only [maxRow] at hN'
  unfold r17_Run
  rw [if_pos (by simp; omega)]
  refine run_goes hN hpt hd hl hb hlen hsp (r8 := 0) (r9 := arg) ⟨by omega, hc, hm, fun co cd Vars Ra Fx w h0 tr l1 l2 h => hK _ _ _ _ _ _ w l1 l2 tr (.inr ⟨h0, h⟩)⟩ (fun co at_ Vs Ra Fx row rounds w l1 l2 l3 tr hw => ?_) N 0 _ [] [] [] (by omega) (by omega) (by simp) (by simp) (by simp) ⟨rfl, rfl⟩
  by_cases hr : row.length = 0
  · rw [if_neg (by rw [hr]; decide)]
    unfold r17_Run_c20
    exact hK _ _ _ _ _ _ w l1 l2 tr (.inl ⟨rfl, hw⟩)
  · have w1 : IntKind.wrap .i64 (((row.length : Nat) : Int) - 1) = ((row.length - 1 : Nat) : Int) := by rw [wr _ (by omega) (by omega)]; omega
    have hx : row[row.length - 1]? = some (row[row.length - 1]'(by omega)) := List.getElem?_eq_getElem (by omega)
    rw [if_pos (decide_eq_true (by omega)), w1, if_pos ⟨by omega, by omega⟩, Int.toNat_natCast, hx]
    unfold r17_Run_c20
    exact hK _ _ _ _ _ _ w l1 l2 tr (.inl ⟨rfl, hw⟩)
theorem holds_c {l : List Act} (hl : BOK 2 l) {fuel x y arg : Int} {K : Bool → Option Unit} (hK : K true = some ()) :
    (l30_EffectHolds_inst N).effect_Ways Unit l VW PW TW [] fuel (fun (r5 : List (List Mark)) (r6 : Int) => l30_EffectHolds_c7 (l30_EffectHolds_inst N) N x y arg l fuel r5 r6 VW PW TW [] (fun (y40 : Bool) => K y40)) = some () := by
  have hN' := hN
  simp only [maxRow] at hN'
  have kn : ∀ {Q : Type} (k : Bool → Option Q), (l30_EffectHolds_inst N).l30_known Q k = k true := fun _ => rfl
  have ew : ∀ (k0 : List MR → Int → Option Unit), (l30_EffectHolds_inst N).effect_Ways Unit l VW PW TW [] fuel k0 = effect_Ways N l VW PW TW [] fuel k0 := fun _ => rfl
  rw [ew]
  obtain ⟨s, s1, s2, s3, s4⟩ := blk_ok (R := Bool) (R2 := Unit) (N := N) (by unfold big; omega) (V := VW) (Po := PW) (Ti := TW) (by simp) (by simp) (by simp) 2 (N + 1) (N + 1) (by omega) (by omega) l hl
  have b1 : Bl 2 ≤ 100000 := by decide
  have b2 : Bm 2 ≤ 800000 := by decide
  obtain ⟨l1, f1, n1, _, i1⟩ := s3 [] (by simp; omega)
  obtain ⟨l2, f2, n2, _, i2⟩ := s4 [] (by simp; omega)
  simp only [List.length_nil, Nat.zero_add] at n1 n2 i1 i2
  have m1 : code_Block N l VW PW TW [] (fun (r11 : List Ins) => code_Most N r11 (fun (r12 : Int) => some (decide (r12 > fuel)))) = some (decide ((s.most : Int) > fuel)) := by
    unfold code_Block code_writer_block
    rw [top_w]
    refine (f1 _).trans ?_
    exact mostP (N := N) (by omega) i1 n1 (by omega) (by omega) (fun (r12 : Int) => some (decide (r12 > fuel)))
  have hPW : PW.length < maxRow := by simp [maxRow]
  obtain ⟨e, he⟩ : ∃ e, N = e + 1 := ⟨N - 1, by omega⟩
  have hcst : cst 3 l ≤ bst 2 := cst_BOK hl
  have hb3 : bst 2 ≤ 10000000000 := by simp only [bst]; omega
  refine ways2 hN (V := VW) (Tm := TW) (Nd := []) (fl := flX N) hPW (d := 3) he (by omega) (dep_BOK (by omega) hl) (by simp only [maxRow]; omega) m1 (fun ho => ?_) fun T F L ho hL1 hL2 hL3 hL4 => ?_
  · unfold l30_EffectHolds_c7
    rw [if_pos (by decide), show ifB ((15 : Int) == 15) true (some (((([] : List MR).length : Nat) : Int) == 0)) (some false) = some true from rfl, Option.bind_some, ifB_tt, kn, Option.bind_some]
    exact hK
  · obtain ⟨⟨T0, F0⟩, h1, h2⟩ := Option.bind_eq_some_iff.1 ho
    have TF : (∀ t ∈ T0, t ∈ T) ∧ (∀ x ∈ F0, x ∈ F) ∧ (fuel < (s.most : Int) → ∀ t ∈ T0, ∀ u, u <+: t → u ∈ F) := by
      by_cases hc : (s.most : Int) > fuel
      · rw [if_pos (decide_eq_true hc)] at h2
        unfold cutS at h2
        split at h2
        · cases h2
          refine ⟨fun _ h => h, fun x hx => mem_un.2 (.inl hx), fun _ t ht u hu => mem_un.2 (.inr (List.mem_flatMap.2 ⟨t, List.mem_append.2 (.inl ht), mem_pfx.2 hu⟩))⟩
        · cases h2
      · rw [if_neg (by simpa using hc)] at h2
        cases h2
        exact ⟨fun _ h => h, fun _ h => h, fun h => absurd h (by omega)⟩
    obtain ⟨tf1, tf2, tf3⟩ := TF
    unfold l30_EffectHolds_c7
    rw [if_neg (by decide)]
    have er : ∀ (k : List Ins → Option Unit), (l30_EffectHolds_inst N).r16_Block Unit l VW PW TW [] k = k l2 := fun k => by
      show r16_Block N l VW PW TW [] k = k l2
      unfold r16_Block r16_block
      rw [top_r]
      exact f2 _
    rw [er]
    have key : Ok (fun _ : Unit => True) (r17_Run N l2 [x, y] arg fuel (fun (r22 : Int) (r23 : List Int) (r24 : List Msg) (r25 : List Effc) (r26 : Int) (r27 : Int) =>
        l30_EffectHolds_l0 (l30_EffectHolds_inst N) N L r22 r23 r24 r25 r26 r27 (K false) (fun (y39 : Bool) => K y39) N 0)) := by
      refine run_top hN (pt := PW) (fl := flX N) (fun x hx => ?_) (d := 2) (by omega) hl i2 n2 (by omega) (by omega) h1 (by simp) fun v Vs Ra Fx co cd w l1 l2 tr h => ⟨(), ?_, trivial⟩
      · simp only [PWs, List.mem_cons, List.not_mem_nil, or_false] at hx
        rcases hx with rfl | rfl <;> decide
      · refine (hl0 hN (g := if cd = 0 then w else w ++ [errM]) (by omega) (fun row hrow => fits_eq hN (by have := hL3 row hrow; omega) l1 l2 tr) N 0 (by omega) ?_).trans hK
        rw [List.drop_zero, hL2]
        rcases h with ⟨h0, hw⟩ | ⟨h0, hw⟩
        · rw [if_pos h0]; exact .inl (tf1 w hw)
        · rw [if_neg h0]
          refine .inr ⟨w, ?_, rfl⟩
          rcases hw with hw | ⟨hf, t, ht, hp⟩
          · exact tf2 w hw
          · exact tf3 hf t ht w hp
    obtain ⟨_, h, _⟩ := key
    exact h
theorem holds_all (v : List Int) (fuel x y arg : Int) {K : Bool → Option Unit} (hK : K true = some ()) : l30_EffectHolds N v fuel x y arg K = some () := by
  have hN' := hN
  simp only [maxRow] at hN'
  have kn : ∀ {Q : Type} (k : Bool → Option Q), (l30_EffectHolds_inst N).l30_known Q k = k true := fun _ => rfl
  unfold l30_EffectHolds l30_EffectHolds_d
  by_cases hv : v.length > 150
  · rw [if_pos (by simp; omega), kn]; exact hK
  · rw [if_neg (by simp; omega)]
    have key := block37 (R := Unit) (P := fun _ => True) (N := N) (V := VW) (Po := PW) (Ti := TW) (by simp) (by simp) (by simp) (by simp) (by simp) (by simp) (fun _ h => h) (L := v) (by omega) (by omega) 2 N 0
      (fun (r2 : List Act) (r3 : Int) => (l30_EffectHolds_inst N).r37_Place Unit fuel 80 (fun (r4 : Int) =>
  (l30_EffectHolds_inst N).effect_Ways Unit r2 VW PW TW [] r4 (fun (r5 : List (List Mark)) (r6 : Int) =>
  l30_EffectHolds_c7 (l30_EffectHolds_inst N) N x y arg r2 r4 r5 r6 VW PW TW [] (fun (y40 : Bool) => K y40)))) (by omega) (by omega) (by omega) (by omega) fun l At' hl _ _ => ⟨(), ?_, trivial⟩
    · obtain ⟨_, h, _⟩ := key
      exact h
    · obtain ⟨q, q0, q1, hq⟩ := place_ok (R := Unit) (N := N) (v := fuel) (n := 80) (by omega) (by omega) (fun (r4 : Int) =>
  (l30_EffectHolds_inst N).effect_Ways Unit l VW PW TW [] r4 (fun (r5 : List (List Mark)) (r6 : Int) =>
  l30_EffectHolds_c7 (l30_EffectHolds_inst N) N x y arg l r4 r5 r6 VW PW TW [] (fun (y40 : Bool) => K y40)))
      exact Eq.trans hq (holds_c hN hl hK)
end
theorem holds_call (N : Nat) (v : List Int) (fuel x y arg : Int) (h : ∀ K : Bool → Option Unit, K true = some () → l30_EffectHolds N v fuel x y arg K = some ()) : CallOK E0 3 [.tree .int v, .int .i64 fuel, .int .i64 x, .int .i64 y, .int .i64 arg] [] ⟨.bool true, some [], []⟩ := by
  have := l30_EffectHolds_ok N Unit ((v, fuel, x, y, arg, ()), ()) (fun res => okIf (res = ⟨.bool true, some [], []⟩)) () (h (fun b => okIf ((⟨.bool b, some [], []⟩ : Res S) = ⟨.bool true, some [], []⟩)) (okIf_iff.2 rfl))
  refine CallOKs.one ?_
  exact ⟨this.1, fun B vals a b c d => (this.2 B vals a b c d).mono fun e w' ⟨res, hq, rest⟩ => ⟨res, okIf_iff.1 hq, rest⟩⟩
theorem effectHolds_ok (v : List Int) (fuel x y arg : Int) {p1 p2 p3 p4 p5 : Prop} (_ : p1) (_ : p2) (_ : p3) (_ : p4) (_ : p5) : CallOK E0 3 [.tree .int v, .int .i64 fuel, .int .i64 x, .int .i64 y, .int .i64 arg] [] ⟨.bool true, some [], []⟩ :=
  holds_call (maxRow + 1) v fuel x y arg fun K hK => holds_all (Nat.lt_succ_self _) v fuel x y arg hK
end Ef

