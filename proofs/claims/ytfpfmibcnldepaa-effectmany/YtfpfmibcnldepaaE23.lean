/- EffectMany: what the parts of effect.rows do, in plain words: marks, fail, mark, then. -/
import Derived.Test.YtfpfmibcnldepaaE22
set_option maxRecDepth 100000
set_option linter.unusedVariables false
set_option linter.unusedSimpArgs false
namespace Ef
open Go TE Go.Proofs
/-! ### a row's marks -/
theorem marks_l0 {R : Type} {N : Nat} {D l long kn} (h : GD D l long kn) {V P T : List (List UInt8)} {Nd : List Node} {many : Bool} {kcl : Nat} {kp0 : MR → Option R} :
    ∀ (n i : Nat) (x out : MR), D[i]? = some x → x.length < n → out.length + x.length ≤ maxRow → effect_rows_marks_l0 N V P T Nd many l long kn kcl kp0 n (i : Int) out = kp0 (out ++ x.reverse)
  | 0, _, _, _, _, h2, _ => by omega
  | n + 1, i, x, out, hi, h2, h3 => by
    show effect_rows_marks_l0_b N V P T Nd many l long kn kcl kp0 (effect_rows_marks_l0 N V P T Nd many l long kn kcl kp0 n) (i : Int) out = _
    unfold effect_rows_marks_l0_b
    rcases Nat.eq_zero_or_pos i with e | hp
    · subst e
      rw [h.z] at hi
      cases hi
      simp
    · obtain ⟨p, y, m, h4, h5, h6, h7⟩ := h.nx i x hp hi
      subst h6
      rw [if_pos (by simp; omega)]
      have hil := get_lt hi
      have hl := h.len
      rw [if_pos ⟨by omega, by omega⟩]
      have e : l[(i : Int).toNat]? = some ⟨(p : Int), m⟩ := by simpa using h7
      rw [e]
      simp only []
      have hlen : (y ++ [m]).length = y.length + 1 := by simp
      rw [if_pos (by simp; omega), if_pos ⟨by omega, by omega⟩]
      rw [marks_l0 h n p y (out ++ [m]) h5 (by omega) (by simp; omega)]
      simp
theorem rev_l0 {R : Type} {N : Nat} {kp0 : MR → Option R} : ∀ (n : Nat) (a mid b : MR), a.length = b.length → mid.length < n → (a ++ mid ++ b).length < 2 ^ 62 →
    slices_Reverse_Mark_l0 N kp0 n (a.length : Int) ((a.length : Int) + mid.length - 1) (a ++ mid ++ b) = kp0 (a ++ mid.reverse ++ b)
  | 0, _, _, _, _, h, _ => by omega
  | n + 1, a, mid, b, hab, hn, hb => by
    show slices_Reverse_Mark_l0_b N kp0 (slices_Reverse_Mark_l0 N kp0 n) _ _ _ = _
    unfold slices_Reverse_Mark_l0_b
    match mid, hn, hb with
    | [], _, _ => rw [if_neg (by simp; omega)]; simp
    | [c], _, _ => simp
    | c :: c2 :: r, hn, hb =>
      obtain ⟨m', d, hd⟩ : ∃ m' d, c2 :: r = m' ++ [d] := ⟨(c2 :: r).dropLast, (c2 :: r).getLast (by simp), (List.dropLast_concat_getLast (by simp)).symm⟩
      rw [hd] at hn hb ⊢
      have hlen : (c :: (m' ++ [d])).length = m'.length + 2 := by simp
      rw [hlen] at hn ⊢
      have hb' : (a ++ c :: (m' ++ [d]) ++ b).length = a.length + (m'.length + 2) + b.length := by simp; omega
      have hj : ((a.length : Int) + ((m'.length + 2 : Nat) : Int) - 1) = ((a.length + m'.length + 1 : Nat) : Int) := by omega
      rw [hj, if_pos (by simp; omega)]
      rw [if_pos ⟨by omega, by omega⟩]
      have e1 : (a ++ c :: (m' ++ [d]) ++ b)[((a.length + m'.length + 1 : Nat) : Int).toNat]? = some d := by
        rw [Int.toNat_natCast]
        rw [show a ++ c :: (m' ++ [d]) ++ b = (a ++ c :: m') ++ d :: b by simp]
        rw [List.getElem?_append_right (by simp; omega)]
        simp
        rw [show a.length + m'.length + 1 - (a.length + (m'.length + 1)) = 0 by omega]
        rfl
      have e2 : (a ++ c :: (m' ++ [d]) ++ b)[((a.length : Nat) : Int).toNat]? = some c := by
        rw [Int.toNat_natCast, List.append_assoc, List.getElem?_append_right (Nat.le_refl _)]
        simp
      rw [e1]
      simp only []
      rw [if_pos ⟨by omega, by omega⟩, e2]
      simp only []
      rw [if_pos ⟨by omega, by omega⟩]
      have s1 : (a ++ c :: (m' ++ [d]) ++ b).set ((a.length : Nat) : Int).toNat d = a ++ d :: (m' ++ [d]) ++ b := by
        rw [Int.toNat_natCast, List.append_assoc, List.set_append_right _ _ (Nat.le_refl _)]
        simp
      rw [s1]
      rw [if_pos ⟨by omega, by simp; omega⟩]
      have e3 : (a ++ d :: (m' ++ [d]) ++ b)[((a.length + m'.length + 1 : Nat) : Int).toNat]? = some d := by
        rw [Int.toNat_natCast]
        rw [show a ++ d :: (m' ++ [d]) ++ b = (a ++ d :: m') ++ d :: b by simp]
        rw [List.getElem?_append_right (by simp; omega)]
        simp
        rw [show a.length + m'.length + 1 - (a.length + (m'.length + 1)) = 0 by omega]
        rfl
      rw [e3]
      simp only []
      have s2 : (a ++ d :: (m' ++ [d]) ++ b).set ((a.length + m'.length + 1 : Nat) : Int).toNat c = (a ++ [d]) ++ m' ++ (c :: b) := by
        rw [Int.toNat_natCast]
        rw [show a ++ d :: (m' ++ [d]) ++ b = (a ++ d :: m') ++ d :: b by simp]
        rw [List.set_append_right _ _ (by simp; omega)]
        simp
        rw [show a.length + m'.length + 1 - (a.length + (m'.length + 1)) = 0 by omega]
        rfl
      rw [s2]
      rw [wr _ (by omega) (by omega), wr _ (by omega) (by omega)]
      have := rev_l0 (N := N) (kp0 := kp0) n (a ++ [d]) m' (c :: b) (by simp; omega) (by omega) (by simp; omega)
      have l1 : ((a ++ [d]).length : Int) = (a.length : Int) + 1 := by simp
      rw [l1] at this
      rw [show (((a.length + m'.length + 1 : Nat) : Int) - 1) = (a.length : Int) + 1 + (m'.length : Int) - 1 by omega]
      rw [this]
      simp
theorem reverse_eq {R : Type} {N : Nat} (s : MR) (k : MR → Option R) (h1 : s.length < N) (h2 : s.length < 2 ^ 62) : slices_Reverse_Mark N s k = k s.reverse := by
  unfold slices_Reverse_Mark
  have := rev_l0 (N := N) (kp0 := k) N [] s [] rfl h1 (by simpa using h2)
  simp only [List.nil_append, List.append_nil, List.length_nil] at this
  rw [wr _ (by omega) (by omega)]
  rw [show ((s.length : Int) - 1) = ((0 : Nat) : Int) + (s.length : Int) - 1 by omega]
  exact this
theorem rmarks_eq {R : Type} {N : Nat} (hN : maxRow < N) {D l long kn} (h : GD D l long kn) {V P T : List (List UInt8)} {Nd : List Node} {many : Bool} {kcl : Nat} {k : MR → Option R} {i : Nat} {x : MR} (hi : D[i]? = some x) :
    effect_rows_marks N (i : Int) V P T Nd many l long kn kcl k = k x := by
  unfold effect_rows_marks
  have h1 := h.sm x (get_mem hi)
  have h2 := h.bnd
  rw [marks_l0 h N i x [] hi (by omega) (by simp; omega)]
  simp only [List.nil_append]
  rw [reverse_eq _ _ (by simp; omega) (by simp; simp only [maxRow] at h2; omega)]
  rw [List.reverse_reverse]

/-! ### ranges over maps -/
section
variable {σ α : Type} {L : List (List Sc × α × Nat)} {cl : Nat}
theorem range_ok (hst : (L.map (·.2.2)).Nodup) (hlt : ∀ e ∈ L, e.2.2 < cl)
    (loop : Nat → σ → List Nat → Option Unit) (fin : σ → Option Unit) (body : List Nat → σ → (List Sc × α × Nat) → (σ → Option Unit) → Option Unit)
    (hloop : ∀ n s seen, loop (n + 1) s seen = nextC cl seen cl L (fin s) fun e => body seen s e fun s' => loop n s' (e.2.2 :: seen))
    (I : List (List Sc × α × Nat) → σ → Prop)
    (hbody : ∀ seen V s e rec, I V s → (∀ v ∈ V, v ∈ L) → V.Nodup → e ∈ L → e ∉ V → (∀ s', I (e :: V) s' → rec s' = some ()) → body seen s e rec = some ())
    (hfin : ∀ V s, (∀ e ∈ L, e ∈ V) → (∀ v ∈ V, v ∈ L) → V.Nodup → I V s → fin s = some ()) :
    ∀ (n : Nat) (V : List (List Sc × α × Nat)) (s : σ), I V s → (∀ v ∈ V, v ∈ L) → V.Nodup → unseen (V.map (·.2.2)) L < n → loop n s (V.map (·.2.2)) = some ()
  | 0, _, _, _, _, _, h => by omega
  | n + 1, V, s, hI, hV, hn, h => by
    rw [hloop]
    refine nextC_intro hlt hlt (fun hall => ?_) fun e he hs => ?_
    · refine hfin V s (fun e he => ?_) hV hn hI
      obtain ⟨v, hv, ev⟩ := List.mem_map.1 (hall e he)
      rw [← nodup_inj (f := fun t : List Sc × α × Nat => t.2.2) hst (hV v hv) he ev]
      exact hv
    · have hne : e ∉ V := fun hv => hs (List.mem_map.2 ⟨e, hv, rfl⟩)
      refine hbody _ V s e _ hI hV hn he hne fun s' hI' => ?_
      exact range_ok hst hlt loop fin body hloop I hbody hfin n (e :: V) s' hI' (fun v hv => by rcases List.mem_cons.1 hv with rfl | hv; exact he; exact hV v hv) (List.nodup_cons.2 ⟨hne, hn⟩) (by
        have := unseen_lt he hs
        simp only [List.map_cons]
        omega)
theorem unseen_le (seen : List Nat) (L : List (List Sc × α × Nat)) : unseen seen L ≤ L.length := List.length_filter_le _ _
end

/-! ### sets -/
theorem small_ins {X : List MR} {x : MR} : small (ins X x) = (small X && decide ((ins X x).length ≤ 64) && decide (x.length ≤ 64)) := by
  rw [Bool.eq_iff_iff]
  simp only [small, Bool.and_eq_true, decide_eq_true_eq, List.all_eq_true, mem_ins]
  have hle : X.length ≤ (ins X x).length := by unfold ins; split <;> simp
  constructor
  · rintro ⟨h1, h2⟩
    exact ⟨⟨⟨by omega, fun y hy => h2 y (.inl hy)⟩, h1⟩, h2 x (.inr rfl)⟩
  · rintro ⟨⟨⟨h1, h2⟩, h3⟩, h4⟩
    exact ⟨h3, fun y hy => by rcases hy with h | rfl; exact h2 y h; exact h4⟩
theorem many_ins {many : Bool} {X : List MR} {x : MR} : ((many || !small X) || decide (64 < (ins X x).length) || decide (64 < x.length)) = (many || !small (ins X x)) := by
  rw [small_ins]
  have e1 : decide (64 < (ins X x).length) = !decide ((ins X x).length ≤ 64) := by rw [← decide_not]; apply decide_eq_decide.2; omega
  have e2 : decide (64 < x.length) = !decide (x.length ≤ 64) := by rw [← decide_not]; apply decide_eq_decide.2; omega
  rw [e1, e2]
  cases many <;> cases small X <;> cases decide ((ins X x).length ≤ 64) <;> cases decide (x.length ≤ 64) <;> rfl
theorem nodup_ins {X : List MR} {x : MR} (h : X.Nodup) : (ins X x).Nodup := by
  unfold ins
  split
  · exact h
  · rename_i hx
    rw [List.nodup_append]
    exact ⟨h, by simp, fun a ha b hb e => by simp at hb; subst hb; subst e; exact hx ha⟩
def un (X Y : List MR) : List MR := Y.foldl ins X
theorem mem_un {x : MR} : ∀ {Y X : List MR}, x ∈ un X Y ↔ x ∈ X ∨ x ∈ Y
  | [], X => by simp [un]
  | y :: Y, X => by
    have : un X (y :: Y) = un (ins X y) Y := rfl
    rw [this, mem_un, mem_ins, List.mem_cons]
    constructor
    · rintro ((h | h) | h)
      · exact .inl h
      · exact .inr (.inl h)
      · exact .inr (.inr h)
    · rintro (h | h | h)
      · exact .inl (.inl h)
      · exact .inl (.inr h)
      · exact .inr h
theorem nodup_un : ∀ {Y X : List MR}, X.Nodup → (un X Y).Nodup
  | [], X, h => h
  | y :: Y, X, h => nodup_un (Y := Y) (X := ins X y) (nodup_ins h)
def pr (A B : List MR) : List MR := A.flatMap fun a => B.map (a ++ ·)
theorem mem_pr {A B : List MR} {x : MR} : x ∈ pr A B ↔ ∃ a ∈ A, ∃ b ∈ B, x = a ++ b := by
  simp only [pr, List.mem_flatMap, List.mem_map]
  constructor
  · rintro ⟨a, ha, b, hb, rfl⟩
    exact ⟨a, ha, b, hb, rfl⟩
  · rintro ⟨a, ha, b, hb, rfl⟩
    exact ⟨a, ha, b, hb, rfl⟩
/-- Alike: the same rows. -/
def Alike (X Y : List MR) : Prop := ∀ x, x ∈ X ↔ x ∈ Y
theorem nodup_sub_len {α : Type} [DecidableEq α] : ∀ {X Y : List α}, X.Nodup → (∀ x ∈ X, x ∈ Y) → X.length ≤ Y.length
  | [], _, _, _ => by simp
  | x :: X, Y, hn, hs => by
    rw [List.nodup_cons] at hn
    have hx := hs x (by simp)
    have := nodup_sub_len (X := X) (Y := Y.erase x) hn.2 fun y hy => by
      have hne : y ≠ x := fun e => hn.1 (e ▸ hy)
      exact (List.mem_erase_of_ne hne).2 (hs y (List.mem_cons_of_mem _ hy))
    rw [List.length_erase_of_mem hx] at this
    have := List.length_pos_of_mem hx
    simp only [List.length_cons]
    omega
theorem small_sub {X Y : List MR} (hX : X.Nodup) (hs : ∀ x ∈ X, x ∈ Y) (h : small Y = true) : small X = true := by
  simp only [small, Bool.and_eq_true, decide_eq_true_eq, List.all_eq_true] at h ⊢
  exact ⟨Nat.le_trans (nodup_sub_len hX hs) h.1, fun x hx => h.2 x (hs x hx)⟩
theorem Alike.small {X Y : List MR} (h : Alike X Y) (hX : X.Nodup) (hY : Y.Nodup) : small X = small Y := by
  rw [Bool.eq_iff_iff]
  exact ⟨fun e => small_sub hY (fun x hx => (h x).2 hx) e, fun e => small_sub hX (fun x hx => (h x).1 hx) e⟩
theorem Alike.len {X Y : List MR} (h : Alike X Y) (hX : X.Nodup) (hY : Y.Nodup) : X.length = Y.length :=
  Nat.le_antisymm (nodup_sub_len hX fun x hx => (h x).1 hx) (nodup_sub_len hY fun x hx => (h x).2 hx)
end Ef
