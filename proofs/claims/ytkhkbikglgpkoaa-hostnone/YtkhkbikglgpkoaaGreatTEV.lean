/- TE: closed runs in parts: a table of concrete calls. -/
import Derived.Test.YtkhkbikglgpkoaaGreatTEU
namespace TE
open Go
mutual
def sameV : TV U → TV U → Bool
  | .agg a, .agg b => sameVL a b
  | .tup a, .tup b => sameVL a b
  | .undef, .undef => true
  | a, b => sameTV a b
def sameVL : List (TV U) → List (TV U) → Bool
  | [], [] => true
  | a :: x, b :: y => sameV a b && sameVL x y
  | _, _ => false
end
mutual
theorem sameV_eq : ∀ (a b : TV U), sameV a b = true → a = b
  | .agg a, .agg b, h => by simp only [sameV] at h; rw [sameVL_eq a b h]
  | .tup a, .tup b, h => by simp only [sameV] at h; rw [sameVL_eq a b h]
  | .undef, b, h => by cases b <;> first | rfl | (simp [sameV, sameTV] at h)
  | .agg a, .dead, h | .agg a, .undef, h | .agg a, .bool _, h | .agg a, .int _ _, h | .agg a, .str _, h | .agg a, .nilp, h | .agg a, .ptr _ _ _, h | .agg a, .iptr _ _ _, h | .agg a, .nils, h | .agg a, .slw _, h | .agg a, .sl _ _ _, h | .agg a, .rs _ _ _, h | .agg a, .tree _ _, h | .agg a, .nilm, h | .agg a, .map _, h | .agg a, .nilf, h | .agg a, .fn _ _, h | .agg a, .mv _ _, h | .agg a, .nili, h | .agg a, .iface _ _, h | .agg a, .tup _, h => by simp [sameV, sameTV] at h
  | .tup a, .dead, h | .tup a, .undef, h | .tup a, .bool _, h | .tup a, .int _ _, h | .tup a, .str _, h | .tup a, .nilp, h | .tup a, .ptr _ _ _, h | .tup a, .iptr _ _ _, h | .tup a, .nils, h | .tup a, .slw _, h | .tup a, .sl _ _ _, h | .tup a, .rs _ _ _, h | .tup a, .tree _ _, h | .tup a, .nilm, h | .tup a, .map _, h | .tup a, .nilf, h | .tup a, .fn _ _, h | .tup a, .mv _ _, h | .tup a, .nili, h | .tup a, .iface _ _, h | .tup a, .agg _, h => by simp [sameV, sameTV] at h
  | .dead, b, h | .bool _, b, h | .int _ _, b, h | .str _, b, h | .nilp, b, h | .ptr _ _ _, b, h | .iptr _ _ _, b, h | .nils, b, h | .slw _, b, h | .sl _ _ _, b, h | .rs _ _ _, b, h | .tree _ _, b, h | .nilm, b, h | .map _, b, h | .nilf, b, h | .fn _ _, b, h | .mv _ _, b, h | .nili, b, h | .iface _ _, b, h => by
    refine sameTV_eq _ _ ?_
    cases b <;> simpa only [sameV] using h
theorem sameVL_eq : ∀ (a b : List (TV U)), sameVL a b = true → a = b
  | [], [], _ => rfl
  | a :: x, b :: y, h => by simp only [sameVL, Bool.and_eq_true] at h; rw [sameV_eq a b h.1, sameVL_eq x y h.2]
  | [], _ :: _, h => by simp [sameVL] at h
  | _ :: _, [], h => by simp [sameVL] at h
end
def sameOb : Obj U → Obj U → Bool
  | .mapo ag sh vag vc [] ex cl, .mapo ag' sh' vag' vc' [] ex' cl' => ag == ag' && (decide (sh = sh') && (vag == vag' && (Nat.beq vc vc' && (ex == ex' && Nat.beq cl cl'))))
  | a, b => sameObj a b
theorem sameOb_eq (a b : Obj U) (h : sameOb a b = true) : a = b := by
  unfold sameOb at h
  split at h
  · simp only [Bool.and_eq_true, beq_iff_eq, decide_eq_true_eq] at h
    obtain ⟨h1, h2, h3, h4, h5, h6⟩ := h
    subst h1; subst h2; subst h3; subst h5
    cases Nat.eq_of_beq_eq_true h4
    cases Nat.eq_of_beq_eq_true h6
    rfl
  · exact sameObj_eq h
def sameOL : List (Obj U) → List (Obj U) → Bool
  | [], [] => true
  | a :: x, b :: y => sameOb a b && sameOL x y
  | _, _ => false
theorem sameOL_eq : ∀ (a b : List (Obj U)), sameOL a b = true → a = b
  | [], [], _ => rfl
  | a :: x, b :: y, h => by simp only [sameOL, Bool.and_eq_true] at h; rw [sameOb_eq a b h.1, sameOL_eq x y h.2]
  | [], _ :: _, h => by simp [sameOL] at h
  | _ :: _, [], h => by simp [sameOL] at h
/-- A concrete call, and what it comes to. -/
structure CRow where
  f : FuncId
  args : List (TV U)
  objs : List (Obj U)
  v : TV U
  xs : List (Obj U)
  ns : List (Obj U)
def CRow.is (c : CRow) (r : Res U) : Bool := sameV r.v c.v && ((match r.xs with | some x => sameOL x c.xs | none => false) && sameOL r.ns c.ns)
theorem CRow.is_eq {c : CRow} {r : Res U} (h : c.is r = true) : r = ⟨c.v, some c.xs, c.ns⟩ := by
  obtain ⟨v, xs, ns⟩ := r
  simp only [CRow.is, Bool.and_eq_true] at h
  obtain ⟨h1, h2, h3⟩ := h
  cases xs with
  | none => simp at h2
  | some x => rw [sameV_eq _ _ h1, sameOL_eq _ _ h2, sameOL_eq _ _ h3]
def findRow (f : FuncId) (args : List (TV U)) (objs : List (Obj U)) : List CRow → Option CRow
  | [] => none
  | c :: r => bif Nat.beq c.f f && (sameVL c.args args && sameOL c.objs objs) then some c else findRow f args objs r
theorem findRow_some {f : FuncId} {args : List (TV U)} {objs : List (Obj U)} {c : CRow} : ∀ {l : List CRow}, findRow f args objs l = some c → c ∈ l ∧ c.f = f ∧ c.args = args ∧ c.objs = objs
  | [], h => by cases h
  | d :: r, h => by
    unfold findRow at h
    cases hb : (Nat.beq d.f f && (sameVL d.args args && sameOL d.objs objs)) with
    | true =>
      rw [hb] at h
      simp only [Bool.and_eq_true] at hb
      cases h
      exact ⟨by simp, Nat.eq_of_beq_eq_true hb.1, sameVL_eq _ _ hb.2.1, sameOL_eq _ _ hb.2.2⟩
    | false =>
      rw [hb] at h
      have := findRow_some (l := r) h
      exact ⟨by simp [this.1], this.2⟩
def CRow.ok (E : Env U) (c : CRow) : Prop := CallOK E c.f c.args c.objs ⟨c.v, some c.xs, c.ns⟩
/-- Calls, so many deep; those of the table at once. -/
def tabL (E : Env U) (hint : FuncId → Hint U) (N : Nat) (l : List CRow) : Nat → Callf U
  | 0 => fun _ _ _ _ _ => none
  | n + 1 => fun f args objs R k => match findRow f args objs l with
    | some c => k ⟨c.v, some c.xs, c.ns⟩
    | none => bodyT E hint N (tabL E hint N l n) f args objs R k
theorem tabL_ok {E : Env U} (hE : EnvOk E) {hint : FuncId → Hint U} (hH : HintOk hint) {N : Nat} {l : List CRow} (hl : ∀ c ∈ l, c.ok E) : ∀ n, TabOK E (tabL E hint N l n)
  | 0 => fun _ _ _ _ _ _ h => by cases h
  | n + 1 => by
    intro f args objs R k r h
    simp only [tabL] at h
    split at h
    · rename_i c hc
      obtain ⟨h1, rfl, rfl, rfl⟩ := findRow_some hc
      exact ⟨_, h, hl c h1⟩
    · exact bodyT_ok hE hH (tabL_ok hE hH hl n) f args objs R k r h
/-- Does a call come to this? -/
def CRow.runs (P : Program) (hint : FuncId → Hint U) (N n : Nat) (l : List CRow) (c : CRow) : Bool :=
  (bodyT (uEnvR P noCalls) hint N (tabL (uEnvR P noCalls) hint N l n) c.f c.args c.objs Unit fun r => if c.is r = true then some () else none).isSome
theorem CRow.runs_ok {P : Program} {hint : FuncId → Hint U} {N n : Nat} {l : List CRow} {c : CRow} (hm : P.follows .mixedOrders = true) (hH : HintOk hint) (hl : ∀ c ∈ l, c.ok (uEnvR P noCalls)) (h : c.runs P hint N n l = true) : c.ok (uEnvR P noCalls) := by
  obtain ⟨r, hr⟩ := Option.isSome_iff_exists.1 h
  obtain ⟨res, h1, h2⟩ := bodyT_ok (uEnvR_ok hm) hH (tabL_ok (uEnvR_ok hm) hH hl n) c.f c.args c.objs Unit _ r hr
  split at h1
  · rename_i hi
    unfold CRow.ok
    rw [← CRow.is_eq hi]; exact h2
  · cases h1
theorem CRow.cons {E : Env U} {l : List CRow} {c : CRow} (hl : ∀ c ∈ l, c.ok E) (h : c.ok E) : ∀ d ∈ c :: l, d.ok E := fun d hd => by
  rcases List.mem_cons.1 hd with rfl | hd
  · exact h
  · exact hl d hd
end TE
