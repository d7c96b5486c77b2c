/- EffectMany: the law. -/
import Derived.Test.YtfpfmibcnldepaaE30
set_option maxRecDepth 100000
set_option linter.unusedVariables false
set_option linter.unusedSimpArgs false
namespace Ef
open Go TE Go.Proofs
theorem many_ways (same : Bool) (k : Nat) (hk : k < 100) (hm : code_Block N2 (blk same k) VE PE TmE [] (fun (r11 : List Ins) => code_Most N2 r11 (fun (r12 : Int) => some (decide (r12 > 5000)))) = some false) (hc : chk same k = true)
    {k0 : List MR → Int → Option Unit} (h0 : 64 < wantE same k → k0 [] 15 = some ()) (h1 : ∀ L : List MR, L.length = wantE same k → wantE same k ≤ 64 → k0 L 0 = some ()) :
    effect_Ways N2 (blk same k) VE PE TmE [] 5000 k0 = some () := by
  unfold chk at hc
  refine ways_eq (fl := flF) (d := 2) (e := 99999999999) (b := false) (by simp [N2, maxRow]) (by simp [maxRow]) rfl (by omega) (dep_blk same k hk) (cst_blk same k hk) hm (fun hn => ?_) fun T F L hs hT hF => ?_
  · rw [hn] at hc
    exact h0 (by simpa [Nat.blt_eq] using hc)
  · rw [hs] at hc
    simp only [Bool.and_eq_true, List.isEmpty_iff, Nat.beq_eq_true_eq, Nat.ble_eq] at hc
    obtain ⟨⟨hF0, hl⟩, h64⟩ := hc
    subst hF0
    refine ⟨by simpa using hT, fun hp _ => ?_⟩
    refine h1 L ?_ h64
    rw [hp.length_eq]
    simpa using hl
theorem c15_many {K : Bool → Option Unit} (hK : K true = some ()) {w : Nat} (hw : 64 < w) : l30_EffectMany_c15 (l30_EffectMany_inst N2) N2 [] 15 (w : Int) K = some () := by
  unfold l30_EffectMany_c15
  rw [if_pos (by simp; omega)]
  have kn : ∀ {Q : Type} (k : Bool → Option Q), (l30_EffectMany_inst N2).l30_known Q k = k true := fun _ => rfl
  rw [kn]
  exact hK
theorem c15_ok {K : Bool → Option Unit} (hK : K true = some ()) {w : Nat} (hw : w ≤ 64) {L : List MR} (hl : L.length = w) : l30_EffectMany_c15 (l30_EffectMany_inst N2) N2 L 0 (w : Int) K = some () := by
  unfold l30_EffectMany_c15
  rw [if_neg (by simp; omega)]
  have kn : ∀ {Q : Type} (k : Bool → Option Q), (l30_EffectMany_inst N2).l30_known Q k = k true := fun _ => rfl
  rw [kn, hl]
  simp [ifB, hK]
theorem wrap_pow : ∀ k < 10, IntKind.wrap .i64 (1 * 2 ^ (min (IntKind.wrap .u64 ((k : Nat) : Int)).toNat (IntKind.bits .i64))) = ((2 ^ k : Nat) : Int) := by
  intro k hk
  match k, hk with
  | 0, _ => decide
  | 1, _ => decide
  | 2, _ => decide
  | 3, _ => decide
  | 4, _ => decide
  | 5, _ => decide
  | 6, _ => decide
  | 7, _ => decide
  | 8, _ => decide
  | 9, _ => decide
  | _ + 10, h => exact absurd h (by omega)
theorem wrap_u64 : ∀ k < 10, IntKind.wrap .u64 ((k : Nat) : Int) < 0 → False := by
  intro k hk h
  have := IntKind.wrap_u64 ((k : Nat) : Int)
  rw [this] at h
  omega
theorem many_law (same : Bool) (k : Nat) (hk : k < 10) (n : Int) (hn : Int.tmod (IntKind.wrap .i64 n) 10 = (k : Int))
    (hb : ∀ {kp0 : List Act → Option Unit}, l30_EffectMany_l0 (l30_EffectMany_inst N2) N2 same (k : Int) VE PE TmE [] kp0 N2 0 [] = kp0 (blk same k))
    (hm : code_Block N2 (blk same k) VE PE TmE [] (fun (r11 : List Ins) => code_Most N2 r11 (fun (r12 : Int) => some (decide (r12 > 5000)))) = some false) (hc : chk same k = true)
    {K : Bool → Option Unit} (hK : K true = some ()) : l30_EffectMany N2 n same K = some () := by
  unfold l30_EffectMany l30_EffectMany_d
  rw [hn, hb]
  have ew : ∀ l V P T Nd f k, (l30_EffectMany_inst N2).effect_Ways Unit l V P T Nd f k = effect_Ways N2 l V P T Nd f k := fun _ _ _ _ _ _ _ => rfl
  rw [ew]
  refine many_ways same k (by omega) hm hc (fun hw => ?_) fun L hl hw => ?_
  · cases same with
    | true =>
      rw [if_neg (by simp)]
      have : IntKind.wrap .i64 ((k : Int) + 1) = ((wantE true k : Nat) : Int) := by rw [wr _ (by omega) (by omega)]; simp [wantE]
      rw [this]
      exact c15_many hK hw
    | false =>
      rw [if_pos (by simp), if_neg (fun h => wrap_u64 k hk h), wrap_pow k hk]
      exact c15_many hK hw
  · cases same with
    | true =>
      rw [if_neg (by simp)]
      have : IntKind.wrap .i64 ((k : Int) + 1) = ((wantE true k : Nat) : Int) := by rw [wr _ (by omega) (by omega)]; simp [wantE]
      rw [this]
      exact c15_ok hK hw hl
    | false =>
      rw [if_pos (by simp), if_neg (fun h => wrap_u64 k hk h), wrap_pow k hk]
      exact c15_ok hK hw hl
theorem many_all (n : Int) (h0 : 0 ≤ n) (h1 : n < 256) (same : Bool) {K : Bool → Option Unit} (hK : K true = some ()) : l30_EffectMany N2 n same K = some () := by
  obtain ⟨k, hk⟩ : ∃ k : Nat, Int.tmod (IntKind.wrap .i64 n) 10 = (k : Int) := ⟨(Int.tmod (IntKind.wrap .i64 n) 10).toNat, by
    rw [wr _ (by omega) (by omega), Int.tmod_eq_emod_of_nonneg h0]; omega⟩
  have hlt : k < 10 := by
    rw [wr _ (by omega) (by omega), Int.tmod_eq_emod_of_nonneg h0] at hk; omega
  match same, k, hlt with
  | true, 0, _ => exact many_law _ _ (by omega) n hk blk_s0 most_s0 chk_s0 hK
  | true, 1, _ => exact many_law _ _ (by omega) n hk blk_s1 most_s1 chk_s1 hK
  | true, 2, _ => exact many_law _ _ (by omega) n hk blk_s2 most_s2 chk_s2 hK
  | true, 3, _ => exact many_law _ _ (by omega) n hk blk_s3 most_s3 chk_s3 hK
  | true, 4, _ => exact many_law _ _ (by omega) n hk blk_s4 most_s4 chk_s4 hK
  | true, 5, _ => exact many_law _ _ (by omega) n hk blk_s5 most_s5 chk_s5 hK
  | true, 6, _ => exact many_law _ _ (by omega) n hk blk_s6 most_s6 chk_s6 hK
  | true, 7, _ => exact many_law _ _ (by omega) n hk blk_s7 most_s7 chk_s7 hK
  | true, 8, _ => exact many_law _ _ (by omega) n hk blk_s8 most_s8 chk_s8 hK
  | true, 9, _ => exact many_law _ _ (by omega) n hk blk_s9 most_s9 chk_s9 hK
  | false, 0, _ => exact many_law _ _ (by omega) n hk blk_d0 most_d0 chk_d0 hK
  | false, 1, _ => exact many_law _ _ (by omega) n hk blk_d1 most_d1 chk_d1 hK
  | false, 2, _ => exact many_law _ _ (by omega) n hk blk_d2 most_d2 chk_d2 hK
  | false, 3, _ => exact many_law _ _ (by omega) n hk blk_d3 most_d3 chk_d3 hK
  | false, 4, _ => exact many_law _ _ (by omega) n hk blk_d4 most_d4 chk_d4 hK
  | false, 5, _ => exact many_law _ _ (by omega) n hk blk_d5 most_d5 chk_d5 hK
  | false, 6, _ => exact many_law _ _ (by omega) n hk blk_d6 most_d6 chk_d6 hK
  | false, 7, _ => exact many_law _ _ (by omega) n hk blk_d7 most_d7 chk_d7 hK
  | false, 8, _ => exact many_law _ _ (by omega) n hk blk_d8 most_d8 chk_d8 hK
  | false, 9, _ => exact many_law _ _ (by omega) n hk blk_d9 most_d9 chk_d9 hK
  | _, _ + 10, h => exact absurd h (by omega)
theorem wf_u8 {n : Int} (hw : (Lit.int .u8 n).wf = true) : 0 ≤ n ∧ n < 256 := by
  have h : IntKind.u8.min ≤ n ∧ n ≤ IntKind.u8.max := by simpa [Lit.wf] using hw
  have e1 : IntKind.u8.min = 0 := by decide
  have e2 : IntKind.u8.max = 255 := by decide
  rw [e1, e2] at h
  omega
theorem many_call (N : Nat) (n : Int) (same : Bool) (h : ∀ K : Bool → Option Unit, K true = some () → l30_EffectMany N n same K = some ()) : CallOK E0 5 [.int .u8 n, .bool same] [] ⟨.bool true, some [], []⟩ := by
  have := l30_EffectMany_ok N Unit ((n, same, ()), ()) (fun res => okIf (res = ⟨.bool true, some [], []⟩)) () (h (fun b => okIf ((⟨.bool b, some [], []⟩ : Res S) = ⟨.bool true, some [], []⟩)) (okIf_iff.2 rfl))
  refine CallOKs.one ?_
  exact ⟨this.1, fun B vals a b c d => (this.2 B vals a b c d).mono fun e w' ⟨res, hq, rest⟩ => ⟨res, okIf_iff.1 hq, rest⟩⟩
theorem effectMany_ok (n : Int) (same : Bool) (hw : (Lit.int .u8 n).wf = true) : CallOK E0 5 [.int .u8 n, .bool same] [] ⟨.bool true, some [], []⟩ :=
  many_call N2 n same fun K hK => many_all n (wf_u8 hw).1 (wf_u8 hw).2 same hK
end Ef
