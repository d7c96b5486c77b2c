/- EffectWays: for every input the law's function answers true. -/
import Derived.Test.YtfpfmibcnldepaaEG
import Derived.Test.YtfpfmibcnldepaaE53x1
set_option maxRecDepth 100000
set_option linter.unusedVariables false
set_option linter.unusedSimpArgs false
namespace Ef
open Go TE Go.Proofs
abbrev VW : List (List UInt8) := [[120], [121]]
abbrev PW : List (List UInt8) := [[112], [113]]
abbrev TW : List (List UInt8) := [[116]]
section
variable {N : Nat} (hN : maxRow < N)
theorem top_w {R : Type} {l : List Act} {v : Int} {V P T : List (List UInt8)} {Nd : List Node} {kp0 : List Ins → Option R} : ∀ n, code_writer_block_l0 N l v V P T Nd kp0 n = code_writer_block_2_l0 (Fam_code_writer_block_2_at N N) N l v V P T Nd kp0 n
  | 0 => rfl
  | n + 1 => by
    funext i c
    show code_writer_block_l0_b N l v V P T Nd kp0 (code_writer_block_l0 N l v V P T Nd kp0 n) i c = code_writer_block_2_l0_b (Fam_code_writer_block_2_at N N) N l v V P T Nd kp0 (code_writer_block_2_l0 (Fam_code_writer_block_2_at N N) N l v V P T Nd kp0 n) i c
    rw [top_w n]
    rfl
theorem top_r {R : Type} {l : List Act} {V P T : List (List UInt8)} {Nd : List Node} {kp0 : List Ins → Option R} : ∀ n, r16_block_l0 N l V P T Nd kp0 n = r16_block_2_l0 (Fam_r16_block_2_at N N) N l V P T Nd kp0 n
  | 0 => rfl
  | n + 1 => by
    funext i c
    show r16_block_l0_b N l V P T Nd kp0 (r16_block_l0 N l V P T Nd kp0 n) i c = r16_block_2_l0_b (Fam_r16_block_2_at N N) N l V P T Nd kp0 (r16_block_2_l0 (Fam_r16_block_2_at N N) N l V P T Nd kp0 n) i c
    rw [top_r n]
    rfl
include hN
theorem most_same {d : Nat} (hd : d ≤ 3) {l : List Act} (hl : BOK d l) (fuel : Int) : ∃ c : Bool,
    code_Block N l VW PW TW [] (fun (r11 : List Ins) => code_Most N r11 (fun (r12 : Int) => some (decide (r12 > fuel)))) = some c ∧
    r16_Block N l VW PW TW [] (fun (r4 : List Ins) => r16_Most N r4 (fun (r5 : Int) => some (decide (r5 > fuel)))) = some c := by
  have hN' := hN
  simp only [maxRow] at hN'
  obtain ⟨s, s1, s2, s3, s4⟩ := blk_ok (R := Bool) (N := N) (by unfold big; omega) (V := VW) (Po := PW) (Ti := TW) (by simp) (by simp) (by simp) d (N + 1) (N + 1) (by omega) (by omega) l hl
  have b1 : Bl d ≤ 100000 := by
    have : d = 0 ∨ d = 1 ∨ d = 2 ∨ d = 3 := by omega
    rcases this with rfl | rfl | rfl | rfl <;> decide
  have b2 : Bm d ≤ 10000000 := by
    have : d = 0 ∨ d = 1 ∨ d = 2 ∨ d = 3 := by omega
    rcases this with rfl | rfl | rfl | rfl <;> decide
  obtain ⟨l1, f1, n1, _, i1⟩ := s3 [] (by simp; omega)
  obtain ⟨l2, f2, n2, _, i2⟩ := s4 [] (by simp; omega)
  simp only [List.length_nil, Nat.zero_add] at n1 n2 i1 i2
  refine ⟨decide ((s.most : Int) > fuel), ?_, ?_⟩
  · unfold code_Block code_writer_block
    rw [top_w]
    refine (f1 _).trans ?_
    exact mostP (N := N) (by omega) i1 n1 (by omega) (by omega) (fun (r12 : Int) => some (decide (r12 > fuel)))
  · unfold r16_Block r16_block
    rw [top_r]
    refine (f2 _).trans ?_
    exact mostR (N := N) (by omega) i2 n2 (by omega) (by omega) (fun (r5 : Int) => some (decide (r5 > fuel)))
theorem wl0 {l : List MR} (hl : l.length ≤ 1000) (hs : ∀ x ∈ l, x.length ≤ 65) {kp0 : Option Unit} {kp1 : Bool → Option Unit} : ∀ (n i : Nat), i ≤ l.length → l.length - i < n →
    l30_EffectWays_l0 (l30_EffectWays_inst N) N l l kp0 kp1 n (i : Int) = kp0
  | 0, _, _, h => by omega
  | n + 1, i, h1, h2 => by
    have hN' := hN
    simp only [maxRow] at hN'
    show l30_EffectWays_l0_b (l30_EffectWays_inst N) N l l kp0 kp1 (l30_EffectWays_l0 (l30_EffectWays_inst N) N l l kp0 kp1 n) (i : Int) = kp0
    unfold l30_EffectWays_l0_b
    by_cases hlt : i < l.length
    · rw [if_pos (by simpa using hlt), at_nat]
      obtain ⟨x, hx, _⟩ := drop_cons hlt
      have hxl := hs x (get_mem hx)
      rw [hx, Option.bind_some]
      have e1 : ∀ (R : Type) (k : List Mark → Option R), (l30_EffectWays_inst N).l30_marks R x k = k x := fun R k => marks_eq x (by omega) (by unfold big; omega) k
      rw [e1, Option.bind_some]
      have e2 : ∀ (k : Bool → Option Unit), (l30_EffectWays_inst N).r30_Same Unit x x k = k true := fun k => by
        show r30_Same N x x k = _
        rw [same_eq hN (by omega) (by omega)]
        simp
      rw [e2, if_neg (by simp), wr _ (by omega) (by omega), show ((i : Int) + 1) = ((i + 1 : Nat) : Int) by omega]
      exact wl0 hl hs n (i + 1) (by omega) (by omega)
    · rw [if_neg (by simpa using hlt)]
theorem ways_c9 {l : List Act} (hl : BOK 3 l) {fuel : Int} {K : Bool → Option Unit} (hK : K true = some ()) : l30_EffectWays_c8 (l30_EffectWays_inst N) N l fuel VW PW TW [] VW PW TW [] K = some () := by
  have hN' := hN
  simp only [maxRow] at hN'
  obtain ⟨c, m1, m2⟩ := most_same hN (Nat.le_refl 3) hl fuel
  have kn : ∀ {Q : Type} (k : Bool → Option Q), (l30_EffectWays_inst N).l30_known Q k = k true := fun _ => rfl
  have hPW : PW.length < maxRow := by simp [maxRow]
  have rw30 : ∀ (k0 : List MR → Int → Option Unit), (l30_EffectWays_inst N).r30_Ways Unit l VW PW TW [] fuel k0 = r30_Ways N l VW PW TW [] fuel k0 := fun _ => rfl
  unfold l30_EffectWays_c8
  have ew : ∀ (k0 : List MR → Int → Option Unit), (l30_EffectWays_inst N).effect_Ways Unit l VW PW TW [] fuel k0 = effect_Ways N l VW PW TW [] fuel k0 := fun _ => rfl
  rw [ew]
  obtain ⟨e, he⟩ : ∃ e, N = e + 1 := ⟨N - 1, by omega⟩
  have hcst : cst 4 l ≤ bst 3 := cst_BOK hl
  have hb3 : bst 3 ≤ 10000000000 := by simp only [bst]; omega
  refine ways2 hN (V := VW) (Tm := TW) (Nd := []) (fl := flX N) hPW (d := 4) he (by omega) (dep_BOK (by omega) hl) (by simp only [maxRow]; omega) m1 (fun ho => ?_) fun T F L ho hL1 hL2 hL3 hL4 => ?_
  · unfold l30_EffectWays_c9
    rw [rw30]
    refine rways hN hPW (d := 3) (by omega) hl m2 (fun _ => ?_) fun T F L h => ?_
    · rw [show ifB ((15 : Int) != 15) false (some (((([] : List MR).length : Nat) : Int) != ((([] : List MR).length : Nat) : Int))) (some true) = some false from rfl, Option.bind_some, if_neg (by simp)]
      refine (wl0 hN (l := []) (by simp) (by simp) N 0 (by simp) (by simp; omega)).trans ?_
      rw [kn]; exact hK
    · rw [ho] at h; cases h
  · unfold l30_EffectWays_c9
    rw [rw30]
    refine rways hN hPW (d := 3) (by omega) hl m2 (fun h => ?_) fun T' F' L' h h1 h2 => ?_
    · rw [ho] at h; cases h
    · rw [ho] at h
      cases h
      have e : L' = L := SS_uniq h1 hL1 fun x => by rw [h2, hL2]
      subst e
      have : ifB ((0 : Int) != 0) false (some (((L'.length : Nat) : Int) != ((L'.length : Nat) : Int))) (some true) = some false := by
        rw [show (((L'.length : Nat) : Int) != ((L'.length : Nat) : Int)) = false by simp]; rfl
      rw [this, Option.bind_some, if_neg (by simp)]
      refine (wl0 hN (l := L') (by omega) hL3 N 0 (by omega) (by omega)).trans ?_
      rw [kn]; exact hK
theorem ways_all (v : List Int) (fuel : Int) {K : Bool → Option Unit} (hK : K true = some ()) : l30_EffectWays N v fuel K = some () := by
  have hN' := hN
  simp only [maxRow] at hN'
  have kn : ∀ {Q : Type} (k : Bool → Option Q), (l30_EffectWays_inst N).l30_known Q k = k true := fun _ => rfl
  unfold l30_EffectWays l30_EffectWays_d
  by_cases hv : v.length > 150
  · rw [if_pos (by simp; omega), kn]; exact hK
  · rw [if_neg (by simp; omega)]
    have key := block37 (R := Unit) (P := fun _ => True) (N := N) (V := VW) (Po := PW) (Ti := TW) (by simp) (by simp) (by simp) (by simp) (by simp) (by simp) (L := v) (by omega) (by omega) 3 N 0
      (fun (r2 : List Act) (r3 : Int) => (l30_EffectWays_inst N).r37_Place Unit fuel 60 (fun (r4 : Int) =>
  if ((Int.tmod fuel 2) == 0) = true then
    (l30_EffectWays_c8 (l30_EffectWays_inst N) N r2 5000 ([[120], [121]]) ([[112], [113]]) ([[116]]) ([] : List Node) ([[120], [121]]) ([[112], [113]]) ([[116]]) ([] : List Node) (fun (y38 : Bool) =>
    K y38))
  else
    (l30_EffectWays_c8 (l30_EffectWays_inst N) N r2 r4 ([[120], [121]]) ([[112], [113]]) ([[116]]) ([] : List Node) ([[120], [121]]) ([[112], [113]]) ([[116]]) ([] : List Node) (fun (y39 : Bool) =>
    K y39)))) (by omega) (by omega) (by omega) (by omega) fun l At' hl _ _ => ⟨(), ?_, trivial⟩
    · obtain ⟨_, h, _⟩ := key
      exact h
    · obtain ⟨q, q0, q1, hq⟩ := place_ok (R := Unit) (N := N) (v := fuel) (n := 60) (by omega) (by omega) (fun (r4 : Int) =>
  if ((Int.tmod fuel 2) == 0) = true then
    (l30_EffectWays_c8 (l30_EffectWays_inst N) N l 5000 ([[120], [121]]) ([[112], [113]]) ([[116]]) ([] : List Node) ([[120], [121]]) ([[112], [113]]) ([[116]]) ([] : List Node) (fun (y38 : Bool) =>
    K y38))
  else
    (l30_EffectWays_c8 (l30_EffectWays_inst N) N l r4 ([[120], [121]]) ([[112], [113]]) ([[116]]) ([] : List Node) ([[120], [121]]) ([[112], [113]]) ([[116]]) ([] : List Node) (fun (y39 : Bool) =>
    K y39)))
      refine Eq.trans hq ?_
      split
      · exact ways_c9 hN hl hK
      · exact ways_c9 hN hl hK
end
theorem ways_call (N : Nat) (v : List Int) (fuel : Int) (h : ∀ K : Bool → Option Unit, K true = some () → l30_EffectWays N v fuel K = some ()) : CallOK E0 3 [.tree .int v, .int .i64 fuel] [] ⟨.bool true, some [], []⟩ := by
  have := l30_EffectWays_ok N Unit ((v, fuel, ()), ()) (fun res => okIf (res = ⟨.bool true, some [], []⟩)) () (h (fun b => okIf ((⟨.bool b, some [], []⟩ : Res S) = ⟨.bool true, some [], []⟩)) (okIf_iff.2 rfl))
  refine CallOKs.one ?_
  exact ⟨this.1, fun B vals a b c d => (this.2 B vals a b c d).mono fun e w' ⟨res, hq, rest⟩ => ⟨res, okIf_iff.1 hq, rest⟩⟩
theorem effectWays_ok (v : List Int) (fuel : Int) {p q : Prop} (_ : p) (_ : q) : CallOK E0 3 [.tree .int v, .int .i64 fuel] [] ⟨.bool true, some [], []⟩ :=
  ways_call (maxRow + 1) v fuel fun K hK => ways_all (Nat.lt_succ_self _) v fuel hK
end Ef

