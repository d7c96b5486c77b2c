/- EffectMany: a block's rows, in plain words (sp), and that effect.rows finds them. -/
import Derived.Test.YtfpfmibcnldepaaE25
set_option maxRecDepth 100000
set_option linter.unusedVariables false
set_option linter.unusedSimpArgs false
namespace Ef
open Go TE Go.Proofs
abbrev St2 := List MR × List MR
def failS (s : St2) : Option St2 := if small (un s.2 s.1) = true then some (s.1, un s.2 s.1) else none
def markS (m : Mark) (s : St2) : Option St2 := if small (s.1.map (· ++ [m])) = true then some (s.1.map (· ++ [m]), s.2) else none
def choiceS (y z s : St2) : Option St2 :=
  if small (un (un [] (pr s.1 y.1)) (pr s.1 z.1)) = true then
    (if small (un (un s.2 (pr s.1 y.2)) (pr s.1 z.2)) = true then some (un (un [] (pr s.1 y.1)) (pr s.1 z.1), un (un s.2 (pr s.1 y.2)) (pr s.1 z.2)) else none) else none
def idxS : List (List UInt8) → List UInt8 → Int → Int
  | [], _, _ => -1
  | x :: r, y, i => if y = x then i else idxS r y (i + 1)
def loopS (body : St2 → Option St2) : Nat → St2 → Option St2
  | 0 => some
  | n + 1 => fun s => (body s).bind (loopS body n)
def actS (fl : List Expr → Bool) (pt : List (List UInt8)) (rec : List Act → St2 → Option St2) (a : Act) (s : St2) : Option St2 :=
  (if (a.Kind == 4 || fl a.X) = true then failS s else some s).bind fun s =>
  if (a.Kind == 2) = true then markS ⟨-1, a.Event⟩ s
  else if (a.Kind == 3) = true then markS ⟨idxS pt a.Name 0, a.Event⟩ s
  else if (a.Kind == 6) = true then (rec a.Then ([[]], [])).bind fun y => (rec a.Else ([[]], [])).bind fun z => choiceS y z s
  else if (a.Kind == 7) = true then loopS (rec a.Then) (if 16 < a.N then 16 else a.N).toNat s
  else some s
def actsS (step : Act → St2 → Option St2) : List Act → St2 → Option St2
  | [] => some
  | a :: r => fun s => (step a s).bind (actsS step r)
def sp (fl : List Expr → Bool) (pt : List (List UInt8)) : Nat → List Act → St2 → Option St2
  | 0 => fun _ _ => none
  | d + 1 => actsS (actS fl pt (sp fl pt d))
def dep (N : Nat) (fl : List Expr → Bool) : Nat → List Act → Prop
  | 0, _ => False
  | d + 1, l => l.length < maxRow ∧ ∀ a ∈ l, slices_ContainsFunc_Expr N a.X (fun b => some b) = some (fl a.X) ∧ (a.Kind = 6 → dep N fl d a.Then ∧ dep N fl d a.Else) ∧ (a.Kind = 7 → dep N fl d a.Then)
def cstL (f : Act → Nat) : List Act → Nat
  | [] => 0
  | a :: r => f a + cstL f r
/-- The rounds of a loop. -/
def rnd (a : Act) : Nat := (if 16 < a.N then 16 else a.N).toNat
def cst : Nat → List Act → Nat
  | 0, _ => 0
  | d + 1, l => cstL (fun a => 1100000 + rnd a * cst d a.Then + cst d a.Then + cst d a.Else) l

/-- A block that is under way. -/
structure BS where
  many : Bool
  kn : KnL
  kcl : Nat
  both : Bool
  f : SetL
  fcl : Nat
  l : List Next
  long : List Int
  t : SetL
  tcl : Nat
structure OkB (D : List MR) (s : BS) (X Y : List MR) : Prop where
  gd : GD D s.l s.long s.kn
  st : SetIs D s.t s.tcl X
  sf : SetIs D s.f s.fcl Y
  sm : s.many = false → small X = true ∧ small Y = true
  le : X.length ≤ 65
  bo : s.both = true → ∀ x ∈ X, x ∈ Y
def Sim (s : BS) (X Y : List MR) : Option St2 → Prop
  | some (T, F) => s.many = false ∧ Alike X T ∧ Alike Y F ∧ T.Nodup ∧ F.Nodup
  | none => s.many = true
abbrev Kt := Bool → KnL → Nat → Bool → SetL → Nat → List Next → List Int → SetL → Nat → Option Unit
def Goes (D : List MR) (o : Option St2) (c : Nat) (K : Kt) : Prop :=
  ∀ D' s X Y, D <+: D' → D'.length ≤ D.length + c → OkB D' s X Y → Sim s X Y o → K s.many s.kn s.kcl s.both s.f s.fcl s.l s.long s.t s.tcl = some ()
theorem Goes.next {D D1 : List MR} {o : Option St2} {c c1 : Nat} {K : Kt} (h : Goes D o c K) (h1 : D <+: D1) (h2 : D1.length + c1 ≤ D.length + c) : Goes D1 o c1 K :=
  fun D' s X Y a b e f => h D' s X Y (h1.trans a) (by omega) e f

theorem idx_l0 {R : Type} {N : Nat} {s : List (List UInt8)} {v : List UInt8} (hs : s.length < 2 ^ 40) {k : Int → Option R} : ∀ (n i : Nat), i ≤ s.length → s.length - i < n →
    slices_Index_string_l0 N s v ((s.length : Nat) : Int) (k (-1)) (fun (y6 : Int) => k y6) n (i : Int) = k (idxS (s.drop i) v (i : Int))
  | 0, _, _, h => by omega
  | n + 1, i, h1, h2 => by
    show slices_Index_string_l0_b N s v ((s.length : Nat) : Int) (k (-1)) (fun (y6 : Int) => k y6) (slices_Index_string_l0 N s v ((s.length : Nat) : Int) (k (-1)) (fun (y6 : Int) => k y6) n) (i : Int) = _
    unfold slices_Index_string_l0_b
    by_cases hlt : i < s.length
    · rw [if_pos (by simpa using hlt), at_nat]
      obtain ⟨x, hx, hd⟩ := drop_cons hlt
      rw [hx, hd]
      simp only [Option.bind_some, idxS]
      by_cases e : v = x
      · rw [if_pos (by simpa using e), if_pos e]
      · rw [if_neg (by simpa using e), if_neg e]
        rw [wr _ (by omega) (by omega), show ((i : Int) + 1) = ((i + 1 : Nat) : Int) by omega]
        exact idx_l0 hs n (i + 1) (by omega) (by omega)
    · rw [if_neg (by simpa using hlt), List.drop_eq_nil_of_le (by omega)]
      rfl
theorem idx_eq {R : Type} {N : Nat} (hN : maxRow < N) {s : List (List UInt8)} {v : List UInt8} (hs : s.length < maxRow) {k : Int → Option R} : slices_Index_string N s v k = k (idxS s v 0) := by
  unfold slices_Index_string
  simp only [maxRow] at hs
  exact idx_l0 (by omega) N 0 (by omega) (by simp only [maxRow] at hN; omega)

theorem Sim.none_iff {s : BS} {X Y : List MR} {o : Option St2} (h : Sim s X Y o) (hm : s.many = true) : o = none := by
  cases o with
  | none => rfl
  | some p => obtain ⟨T, F⟩ := p; have := h.1; rw [hm] at this; cases this
theorem Sim.some_of {s : BS} {X Y : List MR} {o : Option St2} (h : Sim s X Y o) (hm : s.many = false) : ∃ T F, o = some (T, F) ∧ Alike X T ∧ Alike Y F ∧ T.Nodup ∧ F.Nodup := by
  cases o with
  | none => have : s.many = true := h; rw [hm] at this; cases this
  | some p => obtain ⟨T, F⟩ := p; exact ⟨T, F, rfl, h.2⟩
theorem nodup_map_app {m : Mark} : ∀ {T : List MR}, T.Nodup → (T.map (· ++ [m])).Nodup := fun h => List.pairwise_map.2 (h.imp fun hne e => hne (List.append_inj' e rfl).1)
section
variable {N : Nat} (hN : maxRow < N) {V P Tm : List (List UInt8)} {Nd : List Node}
include hN

theorem failB {D : List MR} {s : BS} {X Y : List MR} {o : Option St2} (h : OkB D s X Y) (hs : Sim s X Y o) {c : Nat} {K : Kt} (hk : Goes D (o.bind failS) c K) :
    effect_rows_fail N V P Tm Nd s.many s.l s.long s.kn s.kcl s.both s.t s.tcl s.f s.fcl (fun r23 r24 r25 r26 => K r23 s.kn s.kcl r24 r25 r26 s.l s.long s.t s.tcl) = some () := by
  refine fail_ok hN h.gd h.st h.sf (fun e => (h.sm e).2) h.bo fun f' fcl' Y' h1 h2 => ?_
  refine hk D ⟨s.many || !small Y', s.kn, s.kcl, true, f', fcl', s.l, s.long, s.t, s.tcl⟩ X Y' (List.prefix_refl _) (by omega) ⟨h.gd, h.st, h1, fun e => ?_, h.le, fun _ x hx => (h2 x).2 (.inr hx)⟩ ?_
  · simp only [Bool.or_eq_false_iff, Bool.not_eq_false'] at e
    exact ⟨(h.sm e.1).1, e.2⟩
  · cases hm : s.many with
    | true =>
      rw [hs.none_iff hm]
      rfl
    | false =>
      obtain ⟨T, F, rfl, a1, a2, a3, a4⟩ := hs.some_of hm
      have al : Alike Y' (un F T) := fun x => by rw [h2, mem_un, a1 x, a2 x]
      have hn : (un F T).Nodup := nodup_un a4
      have hsm := al.small (h1.nodup h.gd.nd) hn
      simp only [Option.bind_some, failS]
      rw [hsm]
      cases hq : small (un F T) with
      | true => rw [if_pos rfl]; exact ⟨rfl, a1, al, a3, hn⟩
      | false => rw [if_neg (by simp)]; rfl

theorem markB {D : List MR} {s : BS} {X Y : List MR} {o : Option St2} (h : OkB D s X Y) (hs : Sim s X Y o) (hD : D.length + 65 ≤ maxRow) {m : Mark} {K : Kt} (hk : Goes D (o.bind (markS m)) 65 K) :
    effect_rows_mark N m.Port m.Event V P Tm Nd s.many s.l s.long s.kn s.kcl s.both s.t s.tcl s.f s.fcl (fun r54 r55 r56 r57 r58 r59 r60 r61 => K r54 r55 r56 r57 s.f s.fcl r58 r59 r60 r61) = some () := by
  refine mark_ok hN h.gd h.st h.le hD fun D' kn' kcl' l' long' t' tcl' X' h1 h2 h3 h4 h5 => ?_
  have hX := h.st.nodup h.gd.nd
  have hX' := h4.nodup h3.nd
  have alx : Alike X' (X.map (· ++ [m])) := fun x => by
    rw [h5, List.mem_map]
    constructor
    · rintro ⟨y, hy, rfl⟩; exact ⟨y, hy, rfl⟩
    · rintro ⟨y, hy, rfl⟩; exact ⟨y, hy, rfl⟩
  have hl := alx.len hX' (nodup_map_app hX)
  rw [List.length_map] at hl
  have hle := h.le
  refine hk D' ⟨s.many || !small X', kn', kcl', false, s.f, s.fcl, l', long', t', tcl'⟩ X' Y h1 h2 ⟨h3, h4, h.sf.mono h1, fun e => ?_, by omega, fun e => by cases e⟩ ?_
  · simp only [Bool.or_eq_false_iff, Bool.not_eq_false'] at e
    exact ⟨e.2, (h.sm e.1).2⟩
  · cases hm : s.many with
    | true =>
      rw [hs.none_iff hm]
      rfl
    | false =>
      obtain ⟨T, F, rfl, a1, a2, a3, a4⟩ := hs.some_of hm
      have al : Alike X' (T.map (· ++ [m])) := fun x => by
        rw [h5, List.mem_map]
        constructor
        · rintro ⟨y, hy, rfl⟩; exact ⟨y, (a1 y).1 hy, rfl⟩
        · rintro ⟨y, hy, rfl⟩; exact ⟨y, (a1 y).2 hy, rfl⟩
      have hsm := al.small hX' (nodup_map_app a3)
      simp only [Option.bind_some, markS]
      rw [hsm]
      cases hq : small (T.map (· ++ [m])) with
      | true => rw [if_pos rfl]; exact ⟨rfl, al, a2, nodup_map_app a3, a4⟩
      | false => rw [if_neg (by simp)]; rfl
end
end Ef
