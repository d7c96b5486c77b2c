/- EffectMany: for every input the law's function answers true. -/
import Derived.Test.YtfpfmibcnldepaaE29
import Derived.Test.YtfpfmibcnldepaaE21x1
set_option maxRecDepth 100000
set_option linter.unusedVariables false
set_option linter.unusedSimpArgs false
namespace Ef
open Go TE Go.Proofs
def N2 : Nat := 100000000000
def chE (e : List UInt8) : Act := ⟨6, [], [], [(⟨3, 0, [], [], 0⟩ : Expr)], 0, [(⟨2, [], e, [], 0, [], [], 0⟩ : Act)], [], 0⟩
def evE (same : Bool) (i : Nat) : List UInt8 := if same = true then [101] else [UInt8.ofNat (97 + i)]
def blk (same : Bool) (k : Nat) : List Act := (List.range k).map fun i => chE (evE same i)
def flF : List Expr → Bool := fun _ => false
def wantE (same : Bool) (k : Nat) : Nat := if same = true then k + 1 else 2 ^ k
def chk (same : Bool) (k : Nat) : Bool :=
  match sp flF [[112], [113]] 2 (blk same k) initS with
  | none => Nat.blt 64 (wantE same k)
  | some (T, F) => F.isEmpty && Nat.beq T.length (wantE same k) && Nat.ble (wantE same k) 64
theorem dep_blk (same : Bool) (k : Nat) (h : k < 100) : dep N2 flF 2 (blk same k) := by
  refine ⟨by simp [blk, maxRow]; omega, fun a ha => ?_⟩
  obtain ⟨i, hi, rfl⟩ := List.mem_map.1 ha
  refine ⟨by kernel_rfl, fun _ => ⟨⟨by simp [chE, maxRow], fun a ha => ?_⟩, ⟨by simp [chE, maxRow], fun a ha => by simp [chE] at ha⟩⟩, fun h => by simp [chE] at h⟩
  simp [chE] at ha
  subst ha
  exact ⟨by kernel_rfl, fun h => by simp at h, fun h => by simp at h⟩
theorem cst_blk (same : Bool) (k : Nat) (h : k < 100) : 1 + cst 2 (blk same k) ≤ maxRow := by
  have : ∀ (l : List Act), (∀ a ∈ l, ∃ e, a = chE e) → cst 2 l ≤ l.length * 10000000 := by
    intro l
    induction l with
    | nil => intro _; simp [cst, cstL]
    | cons a r ih =>
      intro h
      obtain ⟨e, rfl⟩ := h a (by simp)
      have := ih fun b hb => h b (List.mem_cons_of_mem _ hb)
      simp only [cst, cstL, List.length_cons] at this ⊢
      have e1 : rnd (chE e) = 0 := rfl
      simp only [chE, cstL] at *
      rw [e1]
      omega
  have := this (blk same k) fun a ha => by obtain ⟨i, hi, rfl⟩ := List.mem_map.1 ha; exact ⟨_, rfl⟩
  have hl : (blk same k).length = k := by simp [blk]
  rw [hl] at this
  simp only [maxRow]
  omega
abbrev VE : List (List UInt8) := [[120], [121]]
abbrev PE : List (List UInt8) := [[112], [113]]
abbrev TmE : List (List UInt8) := [[116]]
theorem blk_s0 {F : Fam_l30_EffectMany} {kp0 : List Act → Option Unit} : l30_EffectMany_l0 F N2 true 0 VE PE TmE [] kp0 N2 0 [] = kp0 (blk true 0) := by kernel_rfl
theorem most_s0 : code_Block N2 (blk true 0) VE PE TmE [] (fun (r11 : List Ins) => code_Most N2 r11 (fun (r12 : Int) => some (decide (r12 > 5000)))) = some false := by kernel_rfl
theorem chk_s0 : chk true 0 = true := by kernel_rfl
theorem blk_s1 {F : Fam_l30_EffectMany} {kp0 : List Act → Option Unit} : l30_EffectMany_l0 F N2 true 1 VE PE TmE [] kp0 N2 0 [] = kp0 (blk true 1) := by kernel_rfl
theorem most_s1 : code_Block N2 (blk true 1) VE PE TmE [] (fun (r11 : List Ins) => code_Most N2 r11 (fun (r12 : Int) => some (decide (r12 > 5000)))) = some false := by kernel_rfl
theorem chk_s1 : chk true 1 = true := by kernel_rfl
theorem blk_s2 {F : Fam_l30_EffectMany} {kp0 : List Act → Option Unit} : l30_EffectMany_l0 F N2 true 2 VE PE TmE [] kp0 N2 0 [] = kp0 (blk true 2) := by kernel_rfl
theorem most_s2 : code_Block N2 (blk true 2) VE PE TmE [] (fun (r11 : List Ins) => code_Most N2 r11 (fun (r12 : Int) => some (decide (r12 > 5000)))) = some false := by kernel_rfl
theorem chk_s2 : chk true 2 = true := by kernel_rfl
theorem blk_s3 {F : Fam_l30_EffectMany} {kp0 : List Act → Option Unit} : l30_EffectMany_l0 F N2 true 3 VE PE TmE [] kp0 N2 0 [] = kp0 (blk true 3) := by kernel_rfl
theorem most_s3 : code_Block N2 (blk true 3) VE PE TmE [] (fun (r11 : List Ins) => code_Most N2 r11 (fun (r12 : Int) => some (decide (r12 > 5000)))) = some false := by kernel_rfl
theorem chk_s3 : chk true 3 = true := by kernel_rfl
theorem blk_s4 {F : Fam_l30_EffectMany} {kp0 : List Act → Option Unit} : l30_EffectMany_l0 F N2 true 4 VE PE TmE [] kp0 N2 0 [] = kp0 (blk true 4) := by kernel_rfl
theorem most_s4 : code_Block N2 (blk true 4) VE PE TmE [] (fun (r11 : List Ins) => code_Most N2 r11 (fun (r12 : Int) => some (decide (r12 > 5000)))) = some false := by kernel_rfl
theorem chk_s4 : chk true 4 = true := by kernel_rfl
theorem blk_s5 {F : Fam_l30_EffectMany} {kp0 : List Act → Option Unit} : l30_EffectMany_l0 F N2 true 5 VE PE TmE [] kp0 N2 0 [] = kp0 (blk true 5) := by kernel_rfl
theorem most_s5 : code_Block N2 (blk true 5) VE PE TmE [] (fun (r11 : List Ins) => code_Most N2 r11 (fun (r12 : Int) => some (decide (r12 > 5000)))) = some false := by kernel_rfl
theorem chk_s5 : chk true 5 = true := by kernel_rfl
theorem blk_s6 {F : Fam_l30_EffectMany} {kp0 : List Act → Option Unit} : l30_EffectMany_l0 F N2 true 6 VE PE TmE [] kp0 N2 0 [] = kp0 (blk true 6) := by kernel_rfl
theorem most_s6 : code_Block N2 (blk true 6) VE PE TmE [] (fun (r11 : List Ins) => code_Most N2 r11 (fun (r12 : Int) => some (decide (r12 > 5000)))) = some false := by kernel_rfl
theorem chk_s6 : chk true 6 = true := by kernel_rfl
theorem blk_s7 {F : Fam_l30_EffectMany} {kp0 : List Act → Option Unit} : l30_EffectMany_l0 F N2 true 7 VE PE TmE [] kp0 N2 0 [] = kp0 (blk true 7) := by kernel_rfl
theorem most_s7 : code_Block N2 (blk true 7) VE PE TmE [] (fun (r11 : List Ins) => code_Most N2 r11 (fun (r12 : Int) => some (decide (r12 > 5000)))) = some false := by kernel_rfl
theorem chk_s7 : chk true 7 = true := by kernel_rfl
theorem blk_s8 {F : Fam_l30_EffectMany} {kp0 : List Act → Option Unit} : l30_EffectMany_l0 F N2 true 8 VE PE TmE [] kp0 N2 0 [] = kp0 (blk true 8) := by kernel_rfl
theorem most_s8 : code_Block N2 (blk true 8) VE PE TmE [] (fun (r11 : List Ins) => code_Most N2 r11 (fun (r12 : Int) => some (decide (r12 > 5000)))) = some false := by kernel_rfl
theorem chk_s8 : chk true 8 = true := by kernel_rfl
theorem blk_s9 {F : Fam_l30_EffectMany} {kp0 : List Act → Option Unit} : l30_EffectMany_l0 F N2 true 9 VE PE TmE [] kp0 N2 0 [] = kp0 (blk true 9) := by kernel_rfl
theorem most_s9 : code_Block N2 (blk true 9) VE PE TmE [] (fun (r11 : List Ins) => code_Most N2 r11 (fun (r12 : Int) => some (decide (r12 > 5000)))) = some false := by kernel_rfl
theorem chk_s9 : chk true 9 = true := by kernel_rfl
theorem blk_d0 {F : Fam_l30_EffectMany} {kp0 : List Act → Option Unit} : l30_EffectMany_l0 F N2 false 0 VE PE TmE [] kp0 N2 0 [] = kp0 (blk false 0) := by kernel_rfl
theorem most_d0 : code_Block N2 (blk false 0) VE PE TmE [] (fun (r11 : List Ins) => code_Most N2 r11 (fun (r12 : Int) => some (decide (r12 > 5000)))) = some false := by kernel_rfl
theorem chk_d0 : chk false 0 = true := by kernel_rfl
theorem blk_d1 {F : Fam_l30_EffectMany} {kp0 : List Act → Option Unit} : l30_EffectMany_l0 F N2 false 1 VE PE TmE [] kp0 N2 0 [] = kp0 (blk false 1) := by kernel_rfl
theorem most_d1 : code_Block N2 (blk false 1) VE PE TmE [] (fun (r11 : List Ins) => code_Most N2 r11 (fun (r12 : Int) => some (decide (r12 > 5000)))) = some false := by kernel_rfl
theorem chk_d1 : chk false 1 = true := by kernel_rfl
theorem blk_d2 {F : Fam_l30_EffectMany} {kp0 : List Act → Option Unit} : l30_EffectMany_l0 F N2 false 2 VE PE TmE [] kp0 N2 0 [] = kp0 (blk false 2) := by kernel_rfl
theorem most_d2 : code_Block N2 (blk false 2) VE PE TmE [] (fun (r11 : List Ins) => code_Most N2 r11 (fun (r12 : Int) => some (decide (r12 > 5000)))) = some false := by kernel_rfl
theorem chk_d2 : chk false 2 = true := by kernel_rfl
theorem blk_d3 {F : Fam_l30_EffectMany} {kp0 : List Act → Option Unit} : l30_EffectMany_l0 F N2 false 3 VE PE TmE [] kp0 N2 0 [] = kp0 (blk false 3) := by kernel_rfl
theorem most_d3 : code_Block N2 (blk false 3) VE PE TmE [] (fun (r11 : List Ins) => code_Most N2 r11 (fun (r12 : Int) => some (decide (r12 > 5000)))) = some false := by kernel_rfl
theorem chk_d3 : chk false 3 = true := by kernel_rfl
theorem blk_d4 {F : Fam_l30_EffectMany} {kp0 : List Act → Option Unit} : l30_EffectMany_l0 F N2 false 4 VE PE TmE [] kp0 N2 0 [] = kp0 (blk false 4) := by kernel_rfl
theorem most_d4 : code_Block N2 (blk false 4) VE PE TmE [] (fun (r11 : List Ins) => code_Most N2 r11 (fun (r12 : Int) => some (decide (r12 > 5000)))) = some false := by kernel_rfl
theorem chk_d4 : chk false 4 = true := by kernel_rfl
theorem blk_d5 {F : Fam_l30_EffectMany} {kp0 : List Act → Option Unit} : l30_EffectMany_l0 F N2 false 5 VE PE TmE [] kp0 N2 0 [] = kp0 (blk false 5) := by kernel_rfl
theorem most_d5 : code_Block N2 (blk false 5) VE PE TmE [] (fun (r11 : List Ins) => code_Most N2 r11 (fun (r12 : Int) => some (decide (r12 > 5000)))) = some false := by kernel_rfl
theorem chk_d5 : chk false 5 = true := by kernel_rfl
theorem blk_d6 {F : Fam_l30_EffectMany} {kp0 : List Act → Option Unit} : l30_EffectMany_l0 F N2 false 6 VE PE TmE [] kp0 N2 0 [] = kp0 (blk false 6) := by kernel_rfl
theorem most_d6 : code_Block N2 (blk false 6) VE PE TmE [] (fun (r11 : List Ins) => code_Most N2 r11 (fun (r12 : Int) => some (decide (r12 > 5000)))) = some false := by kernel_rfl
theorem chk_d6 : chk false 6 = true := by kernel_rfl
theorem blk_d7 {F : Fam_l30_EffectMany} {kp0 : List Act → Option Unit} : l30_EffectMany_l0 F N2 false 7 VE PE TmE [] kp0 N2 0 [] = kp0 (blk false 7) := by kernel_rfl
theorem most_d7 : code_Block N2 (blk false 7) VE PE TmE [] (fun (r11 : List Ins) => code_Most N2 r11 (fun (r12 : Int) => some (decide (r12 > 5000)))) = some false := by kernel_rfl
theorem chk_d7 : chk false 7 = true := by kernel_rfl
theorem blk_d8 {F : Fam_l30_EffectMany} {kp0 : List Act → Option Unit} : l30_EffectMany_l0 F N2 false 8 VE PE TmE [] kp0 N2 0 [] = kp0 (blk false 8) := by kernel_rfl
theorem most_d8 : code_Block N2 (blk false 8) VE PE TmE [] (fun (r11 : List Ins) => code_Most N2 r11 (fun (r12 : Int) => some (decide (r12 > 5000)))) = some false := by kernel_rfl
theorem chk_d8 : chk false 8 = true := by kernel_rfl
theorem blk_d9 {F : Fam_l30_EffectMany} {kp0 : List Act → Option Unit} : l30_EffectMany_l0 F N2 false 9 VE PE TmE [] kp0 N2 0 [] = kp0 (blk false 9) := by kernel_rfl
theorem most_d9 : code_Block N2 (blk false 9) VE PE TmE [] (fun (r11 : List Ins) => code_Most N2 r11 (fun (r12 : Int) => some (decide (r12 > 5000)))) = some false := by kernel_rfl
theorem chk_d9 : chk false 9 = true := by kernel_rfl
end Ef
