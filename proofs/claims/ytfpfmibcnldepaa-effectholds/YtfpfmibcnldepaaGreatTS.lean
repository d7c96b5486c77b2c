/- TE: shapes of values; contracts and loops told by shapes. -/
import Derived.Test.YtfpfmibcnldepaaGreatTE22
set_option linter.unusedVariables false
namespace TE
open Go
variable {S : Sig}

/-- Shapes of values: what is a variable, what is fixed. -/
inductive Sh (S : Sig) : Type
  | i (k : IntKind)
  | b
  | st
  | t (c : S.K)
  | p (nm i k : Nat)
  | pk (nm k : Nat)
  | ip (c : S.K) (k : Nat)
  | np
  | ns
  | nm
  | nf
  | ni
  | dd
  | ud
  | sw (nm : Nat)
  | sl (nm : Nat)
  | m (nm : Nat)
  | fn (f : FuncId) (l : List (Sh S))
  | ag (l : List (Sh S))
  | tp (l : List (Sh S))
  | iff (t : TypeId) (s : Sh S)
inductive ShO (S : Sig) : Type
  | bx (l : List (Sh S))
  | rw (c : S.K) (m : RM)
  | g
  | mp (ag : Bool) (sh : List ScK) (vag : Bool) (vc : S.K)
  | it (nm : Nat)
  /-- a map of which the order is known -/
  | mx (ag : Bool) (sh : List ScK) (vag : Bool) (vc : S.K)

mutual
def Sh.T : Sh S → Type
  | .i _ => Int
  | .b => Bool
  | .st => List UInt8
  | .t c => List (S.El c)
  | .pk _ _ => Nat
  | .ip c _ => S.El c
  | .sl _ => Nat × Nat
  | .fn _ l => TL l
  | .ag l => TL l
  | .tp l => TL l
  | .iff _ s => Sh.T s
  | .p _ _ _ => Unit
  | .np => Unit
  | .ns => Unit
  | .nm => Unit
  | .nf => Unit
  | .ni => Unit
  | .dd => Unit
  | .ud => Unit
  | .sw _ => Unit
  | .m _ => Unit
def TL : List (Sh S) → Type
  | [] => Unit
  | s :: r => Sh.T s × TL r
end
def ShO.T : ShO S → Type
  | .bx l => TL l
  | .rw c _ => List (S.El c)
  | .g => Unit
  | .mp _ _ _ vc => List (List Sc × S.El vc × Nat) × Bool × Nat
  | .mx _ _ _ vc => List (List Sc × S.El vc × Nat) × Nat
  | .it _ => Nat × List Nat × Nat
def TOL : List (ShO S) → Type
  | [] => Unit
  | s :: r => s.T × TOL r
mutual
def Sh.Fn : Sh S → Type → Type
  | .i _, Y => Int → Y
  | .b, Y => Bool → Y
  | .st, Y => List UInt8 → Y
  | .t c, Y => List (S.El c) → Y
  | .pk _ _, Y => Nat → Y
  | .ip c _, Y => S.El c → Y
  | .sl _, Y => Nat → Nat → Y
  | .fn _ l, Y => FnL l Y
  | .ag l, Y => FnL l Y
  | .tp l, Y => FnL l Y
  | .iff _ s, Y => Sh.Fn s Y
  | .p _ _ _, Y => Y
  | .np, Y => Y
  | .ns, Y => Y
  | .nm, Y => Y
  | .nf, Y => Y
  | .ni, Y => Y
  | .dd, Y => Y
  | .ud, Y => Y
  | .sw _, Y => Y
  | .m _, Y => Y
def FnL : List (Sh S) → Type → Type
  | [], Y => Y
  | s :: r, Y => Sh.Fn s (FnL r Y)
end
def ShO.Fn : ShO S → Type → Type
  | .bx l, Y => FnL l Y
  | .rw c _, Y => List (S.El c) → Y
  | .g, Y => Y
  | .mp _ _ _ vc, Y => List (List Sc × S.El vc × Nat) → Bool → Nat → Y
  | .mx _ _ _ vc, Y => List (List Sc × S.El vc × Nat) → Nat → Y
  | .it _, Y => Nat → List Nat → Nat → Y
def FnOL : List (ShO S) → Type → Type
  | [], Y => Y
  | s :: r, Y => s.Fn (FnOL r Y)
mutual
def Sh.enc : (s : Sh S) → s.T → TV S
  | .i k, x => .int k x
  | .b, x => .bool x
  | .st, x => .str x
  | .t c, x => .tree c x
  | .pk nm k, x => .ptr nm x k
  | .ip c k, x => .iptr c x k
  | .sl nm, x => .sl nm x.1 x.2
  | .fn f l, x => .fn f (encL l x)
  | .ag l, x => .agg (encL l x)
  | .tp l, x => .tup (encL l x)
  | .iff t s, x => .iface t (Sh.enc s x)
  | .p nm i k, _ => .ptr nm i k
  | .np, _ => .nilp
  | .ns, _ => .nils
  | .nm, _ => .nilm
  | .nf, _ => .nilf
  | .ni, _ => .nili
  | .dd, _ => .dead
  | .ud, _ => .undef
  | .sw nm, _ => .slw nm
  | .m nm, _ => .map nm
def encL : (l : List (Sh S)) → TL l → List (TV S)
  | [], _ => []
  | s :: r, x => Sh.enc s x.1 :: encL r x.2
end
def ShO.enc : (s : ShO S) → s.T → Obj S
  | .bx l, x => .box (encL l x)
  | .rw c m, x => .row c x m
  | .g, _ => .gone
  | .mp ag sh vag vc, x => .mapo ag sh vag vc x.1 x.2.1 x.2.2
  | .mx ag sh vag vc, x => .mapo ag sh vag vc x.1 true x.2
  | .it nm, x => .iter nm x.1 x.2.1 x.2.2
def encOL : (l : List (ShO S)) → TOL l → List (Obj S)
  | [], _ => []
  | s :: r, x => s.enc x.1 :: encOL r x.2
mutual
def Sh.app {Y : Type} : (s : Sh S) → s.Fn Y → s.T → Y
  | .i _, F, x => F x
  | .b, F, x => F x
  | .st, F, x => F x
  | .t _, F, x => F x
  | .pk _ _, F, x => F x
  | .ip _ _, F, x => F x
  | .sl _, F, x => F x.1 x.2
  | .fn _ l, F, x => appL l F x
  | .ag l, F, x => appL l F x
  | .tp l, F, x => appL l F x
  | .iff _ s, F, x => Sh.app s F x
  | .p _ _ _, F, _ => F
  | .np, F, _ => F
  | .ns, F, _ => F
  | .nm, F, _ => F
  | .nf, F, _ => F
  | .ni, F, _ => F
  | .dd, F, _ => F
  | .ud, F, _ => F
  | .sw _, F, _ => F
  | .m _, F, _ => F
def appL {Y : Type} : (l : List (Sh S)) → FnL l Y → TL l → Y
  | [], F, _ => F
  | s :: r, F, x => appL r (Sh.app (Y := FnL r Y) s F x.1) x.2
end
def ShO.app {Y : Type} : (s : ShO S) → s.Fn Y → s.T → Y
  | .bx l, F, x => appL l F x
  | .rw _ _, F, x => F x
  | .g, F, _ => F
  | .mp _ _ _ _, F, x => F x.1 x.2.1 x.2.2
  | .mx _ _ _ _, F, x => F x.1 x.2
  | .it _, F, x => F x.1 x.2.1 x.2.2
def appOL {Y : Type} : (l : List (ShO S)) → FnOL l Y → TOL l → Y
  | [], F, _ => F
  | s :: r, F, x => appOL r (s.app (Y := FnOL r Y) F x.1) x.2
mutual
def Sh.cur {Y : Type} : (s : Sh S) → (s.T → Y) → s.Fn Y
  | .i _, f => fun a => f a
  | .b, f => fun a => f a
  | .st, f => fun a => f a
  | .t _, f => fun a => f a
  | .pk _ _, f => fun a => f a
  | .ip _ _, f => fun a => f a
  | .sl _, f => fun a b => f (a, b)
  | .fn _ l, f => curL l f
  | .ag l, f => curL l f
  | .tp l, f => curL l f
  | .iff _ s, f => Sh.cur s f
  | .p _ _ _, f => f ()
  | .np, f => f ()
  | .ns, f => f ()
  | .nm, f => f ()
  | .nf, f => f ()
  | .ni, f => f ()
  | .dd, f => f ()
  | .ud, f => f ()
  | .sw _, f => f ()
  | .m _, f => f ()
def curL {Y : Type} : (l : List (Sh S)) → (TL l → Y) → FnL l Y
  | [], f => f ()
  | s :: r, f => Sh.cur (Y := FnL r Y) s fun a => curL r fun b => f (a, b)
end
def ShO.cur {Y : Type} : (s : ShO S) → (s.T → Y) → s.Fn Y
  | .bx l, f => curL l f
  | .rw _ _, f => fun a => f a
  | .g, f => f ()
  | .mp _ _ _ _, f => fun a b c => f (a, b, c)
  | .mx _ _ _ _, f => fun a b => f (a, b)
  | .it _, f => fun a b c => f (a, b, c)
def curOL {Y : Type} : (l : List (ShO S)) → (TOL l → Y) → FnOL l Y
  | [], f => f ()
  | s :: r, f => s.cur (Y := FnOL r Y) fun a => curOL r fun b => f (a, b)
def dInt (k : IntKind) : TV S → Option Int
  | .int k' n => if k' = k then some n else none
  | _ => none
def dBool : TV S → Option Bool
  | .bool b => some b
  | _ => none
def dStr : TV S → Option (List UInt8)
  | .str b => some b
  | _ => none
def dTree (c : S.K) : TV S → Option (List (S.El c))
  | .tree c' xs => if h : c' = c then some (h ▸ xs) else none
  | _ => none
def dPk (nm k : Nat) : TV S → Option Nat
  | .ptr nm' i k' => bif (Nat.beq nm nm' && Nat.beq k k') then some i else none
  | _ => none
def dIp (c : S.K) (k : Nat) : TV S → Option (S.El c)
  | .iptr c' x k' => if h : c' = c then (bif Nat.beq k k' then some (h ▸ x) else none) else none
  | _ => none
def dSl (nm : Nat) : TV S → Option (Nat × Nat)
  | .sl nm' a b => bif Nat.beq nm nm' then some (a, b) else none
  | _ => none
def dFn (f : FuncId) : TV S → Option (List (TV S))
  | .fn f' xs => bif Nat.beq f f' then some xs else none
  | _ => none
def dAgg : TV S → Option (List (TV S))
  | .agg xs => some xs
  | _ => none
def dTup : TV S → Option (List (TV S))
  | .tup xs => some xs
  | _ => none
def dIf (t : TypeId) : TV S → Option (TV S)
  | .iface t' x => bif Nat.beq t t' then some x else none
  | _ => none
def dP (nm i k : Nat) : TV S → Option Unit
  | .ptr nm' i' k' => bif (Nat.beq nm nm' && (Nat.beq i i' && Nat.beq k k')) then some () else none
  | _ => none
def dNp : TV S → Option Unit
  | .nilp => some ()
  | _ => none
def dNs : TV S → Option Unit
  | .nils => some ()
  | _ => none
def dNm : TV S → Option Unit
  | .nilm => some ()
  | _ => none
def dNf : TV S → Option Unit
  | .nilf => some ()
  | _ => none
def dNi : TV S → Option Unit
  | .nili => some ()
  | _ => none
def dDd : TV S → Option Unit
  | .dead => some ()
  | _ => none
def dUd : TV S → Option Unit
  | .undef => some ()
  | _ => none
def dSw (nm : Nat) : TV S → Option Unit
  | .slw nm' => bif Nat.beq nm nm' then some () else none
  | _ => none
def dM (nm : Nat) : TV S → Option Unit
  | .map nm' => bif Nat.beq nm nm' then some () else none
  | _ => none
section
variable {v : TV S}
theorem dInt_eq {k : IntKind} {n : Int} (h : dInt k v = some n) : TV.int k n = v := by
  cases v <;> simp only [dInt, reduceCtorEq] at h
  split at h <;> cases h
  subst_vars; rfl
theorem dBool_eq {b : Bool} (h : dBool v = some b) : TV.bool b = v := by
  cases v <;> simp only [dBool, reduceCtorEq] at h
  cases h; rfl
theorem dStr_eq {b : List UInt8} (h : dStr v = some b) : TV.str b = v := by
  cases v <;> simp only [dStr, reduceCtorEq] at h
  cases h; rfl
theorem dTree_eq {c : S.K} {b : List (S.El c)} (h : dTree c v = some b) : TV.tree c b = v := by
  cases v <;> simp only [dTree, reduceCtorEq] at h
  split at h <;> cases h
  subst_vars; rfl
theorem dPk_eq {nm k i : Nat} (h : dPk nm k v = some i) : TV.ptr nm i k = v := by
  cases v <;> simp only [dPk, reduceCtorEq] at h
  rename_i a b c
  cases hb : (Nat.beq nm a && Nat.beq k c) <;> rw [hb] at h <;> cases h
  rw [Bool.and_eq_true] at hb
  cases Nat.eq_of_beq_eq_true hb.1; cases Nat.eq_of_beq_eq_true hb.2; rfl
theorem dIp_eq {c : S.K} {k : Nat} {x : S.El c} (h : dIp c k v = some x) : TV.iptr c x k = v := by
  cases v <;> simp only [dIp, reduceCtorEq] at h
  rename_i c' y k'
  split at h
  · subst_vars
    cases hb : Nat.beq k k' <;> rw [hb] at h <;> cases h
    cases Nat.eq_of_beq_eq_true hb; rfl
  · cases h
theorem dSl_eq {nm : Nat} {x : Nat × Nat} (h : dSl nm v = some x) : TV.sl nm x.1 x.2 = v := by
  cases v <;> simp only [dSl, reduceCtorEq] at h
  rename_i a b c
  cases hb : Nat.beq nm a <;> rw [hb] at h <;> cases h
  cases Nat.eq_of_beq_eq_true hb; rfl
theorem dFn_eq {f : FuncId} {x : List (TV S)} (h : dFn f v = some x) : TV.fn f x = v := by
  cases v <;> simp only [dFn, reduceCtorEq] at h
  rename_i a b
  cases hb : Nat.beq f a <;> rw [hb] at h <;> cases h
  cases Nat.eq_of_beq_eq_true hb; rfl
theorem dAgg_eq {x : List (TV S)} (h : dAgg v = some x) : TV.agg x = v := by
  cases v <;> simp only [dAgg, reduceCtorEq] at h
  cases h; rfl
theorem dTup_eq {x : List (TV S)} (h : dTup v = some x) : TV.tup x = v := by
  cases v <;> simp only [dTup, reduceCtorEq] at h
  cases h; rfl
theorem dIf_eq {t : TypeId} {x : TV S} (h : dIf t v = some x) : TV.iface t x = v := by
  cases v <;> simp only [dIf, reduceCtorEq] at h
  rename_i a b
  cases hb : Nat.beq t a <;> rw [hb] at h <;> cases h
  cases Nat.eq_of_beq_eq_true hb; rfl
theorem dP_eq {nm i k : Nat} {x : Unit} (h : dP nm i k v = some x) : TV.ptr nm i k = v := by
  cases v <;> simp only [dP, reduceCtorEq] at h
  rename_i a b c
  cases hb : (Nat.beq nm a && (Nat.beq i b && Nat.beq k c)) <;> rw [hb] at h <;> cases h
  rw [Bool.and_eq_true, Bool.and_eq_true] at hb
  cases Nat.eq_of_beq_eq_true hb.1; cases Nat.eq_of_beq_eq_true hb.2.1; cases Nat.eq_of_beq_eq_true hb.2.2; rfl
theorem dNp_eq {x : Unit} (h : dNp v = some x) : TV.nilp = v := by cases v <;> first | rfl | cases h
theorem dNs_eq {x : Unit} (h : dNs v = some x) : TV.nils = v := by cases v <;> first | rfl | cases h
theorem dNm_eq {x : Unit} (h : dNm v = some x) : TV.nilm = v := by cases v <;> first | rfl | cases h
theorem dNf_eq {x : Unit} (h : dNf v = some x) : TV.nilf = v := by cases v <;> first | rfl | cases h
theorem dNi_eq {x : Unit} (h : dNi v = some x) : TV.nili = v := by cases v <;> first | rfl | cases h
theorem dDd_eq {x : Unit} (h : dDd v = some x) : TV.dead = v := by cases v <;> first | rfl | cases h
theorem dUd_eq {x : Unit} (h : dUd v = some x) : TV.undef = v := by cases v <;> first | rfl | cases h
theorem dSw_eq {nm : Nat} {x : Unit} (h : dSw nm v = some x) : TV.slw nm = v := by
  cases v <;> simp only [dSw, reduceCtorEq] at h
  rename_i a
  cases hb : Nat.beq nm a <;> rw [hb] at h <;> cases h
  cases Nat.eq_of_beq_eq_true hb; rfl
theorem dM_eq {nm : Nat} {x : Unit} (h : dM nm v = some x) : TV.map nm = v := by
  cases v <;> simp only [dM, reduceCtorEq] at h
  rename_i a
  cases hb : Nat.beq nm a <;> rw [hb] at h <;> cases h
  cases Nat.eq_of_beq_eq_true hb; rfl
end
mutual
def Sh.dec : (s : Sh S) → TV S → Option s.T
  | .i k, v => dInt k v
  | .b, v => dBool v
  | .st, v => dStr v
  | .t c, v => dTree c v
  | .pk nm k, v => dPk nm k v
  | .ip c k, v => dIp c k v
  | .sl nm, v => dSl nm v
  | .fn f l, v => (dFn f v).bind fun xs => decL l xs
  | .ag l, v => (dAgg v).bind fun xs => decL l xs
  | .tp l, v => (dTup v).bind fun xs => decL l xs
  | .iff t s, v => (dIf t v).bind fun x => Sh.dec s x
  | .p nm i k, v => dP nm i k v
  | .np, v => dNp v
  | .ns, v => dNs v
  | .nm, v => dNm v
  | .nf, v => dNf v
  | .ni, v => dNi v
  | .dd, v => dDd v
  | .ud, v => dUd v
  | .sw nm, v => dSw nm v
  | .m nm, v => dM nm v
def decL : (l : List (Sh S)) → List (TV S) → Option (TL l)
  | [], [] => some ()
  | [], _ :: _ => none
  | _ :: _, [] => none
  | s :: r, v :: vs => (Sh.dec s v).bind fun a => (decL r vs).bind fun b => some (a, b)
end
def dBox : Obj S → Option (List (TV S))
  | .box xs => some xs
  | _ => none
def dRow (c : S.K) (m : RM) : Obj S → Option (List (S.El c))
  | .row c' xs m' => if h : c' = c then (if m' = m then some (h ▸ xs) else none) else none
  | _ => none
def dGone : Obj S → Option Unit
  | .gone => some ()
  | _ => none
def dMap (ag : Bool) (sh : List ScK) (vag : Bool) (vc : S.K) : Obj S → Option (List (List Sc × S.El vc × Nat) × Bool × Nat)
  | .mapo ag' sh' vag' vc' L ex cl => if h : vc' = vc then (if ag' = ag ∧ sh' = sh ∧ vag' = vag then some (h ▸ L, ex, cl) else none) else none
  | _ => none
def dIter (nm : Nat) : Obj S → Option (Nat × List Nat × Nat)
  | .iter nm' a b c => bif Nat.beq nm nm' then some (a, b, c) else none
  | _ => none
section
variable {v : Obj S}
theorem dBox_eq {x : List (TV S)} (h : dBox v = some x) : Obj.box x = v := by
  cases v <;> simp only [dBox, reduceCtorEq] at h
  cases h; rfl
theorem dRow_eq {c : S.K} {m : RM} {x : List (S.El c)} (h : dRow c m v = some x) : Obj.row c x m = v := by
  cases v <;> simp only [dRow, reduceCtorEq] at h
  split at h
  · split at h <;> cases h
    subst_vars; rfl
  · cases h
theorem dGone_eq {x : Unit} (h : dGone v = some x) : Obj.gone = v := by cases v <;> first | rfl | cases h
theorem dMap_eq {ag : Bool} {sh : List ScK} {vag : Bool} {vc : S.K} {x : List (List Sc × S.El vc × Nat) × Bool × Nat} (h : dMap ag sh vag vc v = some x) : Obj.mapo ag sh vag vc x.1 x.2.1 x.2.2 = v := by
  cases v <;> simp only [dMap, reduceCtorEq] at h
  split at h
  · split at h
    · rename_i h1 h2
      obtain ⟨rfl, rfl, rfl⟩ := h2
      subst h1
      cases h; rfl
    · cases h
  · cases h
theorem dIter_eq {nm : Nat} {x : Nat × List Nat × Nat} (h : dIter nm v = some x) : Obj.iter nm x.1 x.2.1 x.2.2 = v := by
  cases v <;> simp only [dIter, reduceCtorEq] at h
  rename_i a b c d
  cases hb : Nat.beq nm a <;> rw [hb] at h <;> cases h
  cases Nat.eq_of_beq_eq_true hb; rfl
end
def ShO.dec : (s : ShO S) → Obj S → Option s.T
  | .bx l, v => (dBox v).bind fun xs => decL l xs
  | .rw c m, v => dRow c m v
  | .g, v => dGone v
  | .mp ag sh vag vc, v => dMap ag sh vag vc v
  | .mx ag sh vag vc, v => (dMap ag sh vag vc v).bind fun x => bif x.2.1 then some (x.1, x.2.2) else none
  | .it nm, v => dIter nm v
def decOL : (l : List (ShO S)) → List (Obj S) → Option (TOL l)
  | [], [] => some ()
  | [], _ :: _ => none
  | _ :: _, [] => none
  | s :: r, v :: vs => (s.dec v).bind fun a => (decOL r vs).bind fun b => some (a, b)

mutual
theorem Sh.app_cur {Y : Type} : (s : Sh S) → (f : s.T → Y) → (x : s.T) → s.app (s.cur f) x = f x
  | .i _, f, x => rfl
  | .b, f, x => rfl
  | .st, f, x => rfl
  | .t _, f, x => rfl
  | .pk _ _, f, x => rfl
  | .ip _ _, f, x => rfl
  | .sl _, f, x => rfl
  | .fn _ l, f, x => appL_cur l f x
  | .ag l, f, x => appL_cur l f x
  | .tp l, f, x => appL_cur l f x
  | .iff _ s, f, x => Sh.app_cur s f x
  | .p _ _ _, f, x => rfl
  | .np, f, x => rfl
  | .ns, f, x => rfl
  | .nm, f, x => rfl
  | .nf, f, x => rfl
  | .ni, f, x => rfl
  | .dd, f, x => rfl
  | .ud, f, x => rfl
  | .sw _, f, x => rfl
  | .m _, f, x => rfl
theorem appL_cur {Y : Type} : (l : List (Sh S)) → (f : TL l → Y) → (x : TL l) → appL l (curL l f) x = f x
  | [], f, x => rfl
  | s :: r, f, x => (congrArg (fun F => appL r F x.2) (Sh.app_cur s (fun a => curL r fun b => f (a, b)) x.1)).trans (appL_cur r (fun b => f (x.1, b)) x.2)
end
theorem ShO.app_cur {Y : Type} (s : ShO S) (f : s.T → Y) (x : s.T) : s.app (s.cur f) x = f x := by
  cases s with
  | bx l => exact appL_cur l f x
  | _ => rfl
theorem appOL_cur {Y : Type} : (l : List (ShO S)) → (f : TOL l → Y) → (x : TOL l) → appOL l (curOL l f) x = f x
  | [], f, x => rfl
  | s :: r, f, x => (congrArg (fun F => appOL r F x.2) (ShO.app_cur s (fun a => curOL r fun b => f (a, b)) x.1)).trans (appOL_cur r (fun b => f (x.1, b)) x.2)
mutual
theorem Sh.ext {Y : Type} : (s : Sh S) → (F G : s.Fn Y) → (∀ x, s.app F x = s.app G x) → F = G
  | .i _, F, G, h => funext h
  | .b, F, G, h => funext h
  | .st, F, G, h => funext h
  | .t _, F, G, h => funext h
  | .pk _ _, F, G, h => funext h
  | .ip _ _, F, G, h => funext h
  | .sl _, F, G, h => funext fun a => funext fun b => h (a, b)
  | .fn _ l, F, G, h => extL l F G h
  | .ag l, F, G, h => extL l F G h
  | .tp l, F, G, h => extL l F G h
  | .iff _ s, F, G, h => Sh.ext s F G h
  | .p _ _ _, F, G, h => h ()
  | .np, F, G, h => h ()
  | .ns, F, G, h => h ()
  | .nm, F, G, h => h ()
  | .nf, F, G, h => h ()
  | .ni, F, G, h => h ()
  | .dd, F, G, h => h ()
  | .ud, F, G, h => h ()
  | .sw _, F, G, h => h ()
  | .m _, F, G, h => h ()
theorem extL {Y : Type} : (l : List (Sh S)) → (F G : FnL l Y) → (∀ x, appL l F x = appL l G x) → F = G
  | [], F, G, h => h ()
  | s :: r, F, G, h => Sh.ext (Y := FnL r Y) s F G fun a => extL r _ _ fun b => h (a, b)
end
theorem ShO.ext {Y : Type} (s : ShO S) (F G : s.Fn Y) (h : ∀ x, s.app F x = s.app G x) : F = G := by
  cases s with
  | bx l => exact extL l F G h
  | rw c m => exact funext h
  | g => exact h ()
  | mp => exact funext fun a => funext fun b => funext fun c => h (a, b, c)
  | it => exact funext fun a => funext fun b => funext fun c => h (a, b, c)
  | mx => exact funext fun a => funext fun b => h (a, b)
theorem extOL {Y : Type} : (l : List (ShO S)) → (F G : FnOL l Y) → (∀ x, appOL l F x = appOL l G x) → F = G
  | [], F, G, h => h ()
  | s :: r, F, G, h => ShO.ext (Y := FnOL r Y) s F G fun a => extOL r _ _ fun b => h (a, b)
mutual
theorem Sh.dec_enc : (s : Sh S) → (v : TV S) → (x : s.T) → s.dec v = some x → s.enc x = v
  | .i k, v, x, h => dInt_eq h
  | .b, v, x, h => dBool_eq h
  | .st, v, x, h => dStr_eq h
  | .t c, v, x, h => dTree_eq h
  | .pk nm k, v, x, h => dPk_eq h
  | .ip c k, v, x, h => dIp_eq h
  | .sl nm, v, x, h => dSl_eq h
  | .fn f l, v, x, h => by
    obtain ⟨xs, h1, h2⟩ := Option.bind_eq_some_iff.1 h
    exact (congrArg (TV.fn f) (decL_enc l xs x h2)).trans (dFn_eq h1)
  | .ag l, v, x, h => by
    obtain ⟨xs, h1, h2⟩ := Option.bind_eq_some_iff.1 h
    exact (congrArg TV.agg (decL_enc l xs x h2)).trans (dAgg_eq h1)
  | .tp l, v, x, h => by
    obtain ⟨xs, h1, h2⟩ := Option.bind_eq_some_iff.1 h
    exact (congrArg TV.tup (decL_enc l xs x h2)).trans (dTup_eq h1)
  | .iff t s, v, x, h => by
    obtain ⟨xs, h1, h2⟩ := Option.bind_eq_some_iff.1 h
    exact (congrArg (TV.iface t) (Sh.dec_enc s xs x h2)).trans (dIf_eq h1)
  | .p nm i k, v, x, h => dP_eq h
  | .np, v, x, h => dNp_eq h
  | .ns, v, x, h => dNs_eq h
  | .nm, v, x, h => dNm_eq h
  | .nf, v, x, h => dNf_eq h
  | .ni, v, x, h => dNi_eq h
  | .dd, v, x, h => dDd_eq h
  | .ud, v, x, h => dUd_eq h
  | .sw nm, v, x, h => dSw_eq h
  | .m nm, v, x, h => dM_eq h
theorem decL_enc : (l : List (Sh S)) → (v : List (TV S)) → (x : TL l) → decL l v = some x → encL l x = v
  | [], [], x, h => rfl
  | [], _ :: _, x, h => by cases h
  | _ :: _, [], x, h => by cases h
  | s :: r, v :: vs, x, h => by
    obtain ⟨a, h1, h2⟩ := Option.bind_eq_some_iff.1 h
    obtain ⟨b, h3, h4⟩ := Option.bind_eq_some_iff.1 h2
    have hx : (a, b) = x := Option.some.inj h4
    subst hx
    exact congr (congrArg List.cons (Sh.dec_enc s v a h1)) (decL_enc r vs b h3)
end
theorem ShO.dec_enc : (s : ShO S) → (v : Obj S) → (x : s.T) → s.dec v = some x → s.enc x = v
  | .bx l, v, x, h => by
    obtain ⟨xs, h1, h2⟩ := Option.bind_eq_some_iff.1 h
    exact (congrArg Obj.box (decL_enc l xs x h2)).trans (dBox_eq h1)
  | .rw c m, v, x, h => dRow_eq h
  | .g, v, x, h => dGone_eq h
  | .mp ag sh vag vc, v, x, h => dMap_eq h
  | .mx ag sh vag vc, v, x, h => by
    obtain ⟨y, h1, h2⟩ := Option.bind_eq_some_iff.1 h
    obtain ⟨a, e, b⟩ := y
    cases e with
    | false => cases h2
    | true =>
      have hx : (a, b) = x := Option.some.inj h2
      subst hx
      exact dMap_eq h1
  | .it nm, v, x, h => dIter_eq h
theorem decOL_enc : (l : List (ShO S)) → (v : List (Obj S)) → (x : TOL l) → decOL l v = some x → encOL l x = v
  | [], [], x, h => rfl
  | [], _ :: _, x, h => by cases h
  | _ :: _, [], x, h => by cases h
  | s :: r, v :: vs, x, h => by
    obtain ⟨a, h1, h2⟩ := Option.bind_eq_some_iff.1 h
    obtain ⟨b, h3, h4⟩ := Option.bind_eq_some_iff.1 h2
    have hx : (a, b) = x := Option.some.inj h4
    subst hx
    exact congr (congrArg List.cons (ShO.dec_enc s v a h1)) (decOL_enc r vs b h3)

/-- Values and objects of a shape. -/
structure Pat (S : Sig) where
  v : List (Sh S)
  o : List (ShO S) := []
namespace Pat
def T (q : Pat S) : Type := TL q.v × TOL q.o
def Fn (q : Pat S) (Y : Type) : Type := FnL q.v (FnOL q.o Y)
def app {Y : Type} (q : Pat S) (F : q.Fn Y) (x : q.T) : Y := appOL q.o (appL (Y := FnOL q.o Y) q.v F x.1) x.2
def cur {Y : Type} (q : Pat S) (f : q.T → Y) : q.Fn Y := curL (Y := FnOL q.o Y) q.v fun a => curOL q.o fun b => f (a, b)
def ev (q : Pat S) (x : q.T) : List (TV S) := encL q.v x.1
def eo (q : Pat S) (x : q.T) : List (Obj S) := encOL q.o x.2
def dec (q : Pat S) (vals : List (TV S)) (objs : List (Obj S)) : Option q.T := match decL q.v vals, decOL q.o objs with
  | some a, some b => some (a, b)
  | _, _ => none
def mat {R : Type} (q : Pat S) (F : q.Fn (Option R)) (vals : List (TV S)) (objs : List (Obj S)) : Option R := match q.dec vals objs with
  | some x => q.app F x
  | none => none
/-- What is asked with values and objects, asked with their leaves. -/
def k {Y : Type} (q : Pat S) (K : List (TV S) → List (Obj S) → Y) : q.Fn Y := q.cur fun x => K (q.ev x) (q.eo x)
theorem app_cur {Y : Type} (q : Pat S) (f : q.T → Y) (x : q.T) : q.app (q.cur f) x = f x :=
  (congrArg (fun F => appOL q.o F x.2) (appL_cur q.v (fun a => curOL q.o fun b => f (a, b)) x.1)).trans (appOL_cur q.o (fun b => f (x.1, b)) x.2)
theorem ext {Y : Type} (q : Pat S) (F G : q.Fn Y) (h : ∀ x, q.app F x = q.app G x) : F = G :=
  extL (Y := FnOL q.o Y) q.v F G fun a => extOL q.o _ _ fun b => h (a, b)
theorem dec_enc (q : Pat S) {vals : List (TV S)} {objs : List (Obj S)} {x : q.T} (h : q.dec vals objs = some x) : q.ev x = vals ∧ q.eo x = objs := by
  unfold dec at h
  split at h
  · rename_i a b ha hb
    cases h
    exact ⟨decL_enc _ _ _ ha, decOL_enc _ _ _ hb⟩
  · cases h
theorem mat_some {R : Type} (q : Pat S) {F : q.Fn (Option R)} {vals : List (TV S)} {objs : List (Obj S)} {r : R} (h : q.mat F vals objs = some r) : ∃ x, q.ev x = vals ∧ q.eo x = objs ∧ q.app F x = some r := by
  unfold mat at h
  split at h
  · rename_i x hx
    exact ⟨x, (q.dec_enc hx).1, (q.dec_enc hx).2, h⟩
  · cases h
end Pat
/-- An outcome of a shape. -/
structure Out (S : Sig) where
  v : Sh S
  xs : List (ShO S) := []
  ns : List (ShO S) := []
def Out.k {Y : Type} (o : Out S) (K : Res S → Y) : o.v.Fn (FnOL o.xs (FnOL o.ns Y)) :=
  o.v.cur fun a => curOL o.xs fun b => curOL o.ns fun c => K ⟨o.v.enc a, some (encOL o.xs b), encOL o.ns c⟩
/-- An outcome that leaves the objects as they are. -/
def Out.q {Y : Type} (o : Out S) (K : TV S → List (Obj S) → Y) : o.v.Fn (FnOL o.ns Y) :=
  o.v.cur fun a => curOL o.ns fun c => K (o.v.enc a) (encOL o.ns c)

/-! contracts -/
structure Ct (S : Sig) where
  f : FuncId
  q : Pat S
  F : (R : Type) → (Res S → Option R) → q.Fn (Option R)
def Ct.ok (E : Env S) (c : Ct S) : Prop := ∀ (R : Type) (x : c.q.T) (k : Res S → Option R) (r : R), c.q.app (c.F R k) x = some r → ∃ res, k res = some r ∧ CallOK E c.f (c.q.ev x) (c.q.eo x) res
structure OC (E : Env S) where
  c : Ct S
  ok : c.ok E
def tabOf {E : Env S} : List (OC E) → FuncId → List (TV S) → List (Obj S) → (R : Type) → (Res S → Option R) → Option R
  | [], _, _, _, _, _ => none
  | o :: l, f, args, objs, R, k => bif Nat.beq f o.c.f then (match o.c.q.dec args objs with
    | some x => o.c.q.app (o.c.F R k) x
    | none => tabOf l f args objs R k) else tabOf l f args objs R k
theorem tabOf_ok {E : Env S} (l : List (OC E)) : TabOK E (tabOf l) := by
  intro f args objs R k r h
  induction l with
  | nil => cases h
  | cons o l ih =>
    unfold tabOf at h
    cases hb : Nat.beq f o.c.f with
    | false => rw [hb] at h; exact ih h
    | true =>
      rw [hb] at h
      simp only [cond_true] at h
      split at h
      · rename_i x hx
        obtain ⟨h1, h2⟩ := o.c.q.dec_enc hx
        have := o.ok R x k r h
        rw [h1, h2] at this
        rw [Nat.eq_of_beq_eq_true hb]
        exact this
      · exact ih h

/-- A contract of which there are many outcomes. -/
def Ct.okm (E : Env S) (c : Ct S) : Prop := ∀ (R : Type) [Subsingleton R] (x : c.q.T) (k : Res S → Option R) (r : R), c.q.app (c.F R k) x = some r → CallOKs E c.f (c.q.ev x) (c.q.eo x) fun res => k res = some r
structure OCM (E : Env S) where
  c : Ct S
  ok : c.okm E
def tabMOf {E : Env S} : List (OCM E) → FuncId → List (TV S) → List (Obj S) → (R : Type) → (Res S → Option R) → Option R
  | [], _, _, _, _, _ => none
  | o :: l, f, args, objs, R, k => bif Nat.beq f o.c.f then (match o.c.q.dec args objs with
    | some x => o.c.q.app (o.c.F R k) x
    | none => tabMOf l f args objs R k) else tabMOf l f args objs R k
theorem tabMOf_ok {E : Env S} (l : List (OCM E)) (f : FuncId) (args : List (TV S)) (objs : List (Obj S)) (R : Type) [Subsingleton R] (k : Res S → Option R) (r : R) (h : tabMOf l f args objs R k = some r) : CallOKs E f args objs fun res => k res = some r := by
  induction l with
  | nil => cases h
  | cons o l ih =>
    unfold tabMOf at h
    cases hb : Nat.beq f o.c.f with
    | false => rw [hb] at h; exact ih h
    | true =>
      rw [hb] at h
      simp only [cond_true] at h
      split at h
      · rename_i x hx
        obtain ⟨h1, h2⟩ := o.c.q.dec_enc hx
        have := o.ok R x k r h
        rw [h1, h2] at this
        rw [Nat.eq_of_beq_eq_true hb]
        exact this
      · exact ih h
def isM {E : Env S} : List (OCM E) → FuncId → Bool
  | [], _ => false
  | o :: l, f => bif Nat.beq f o.c.f then true else isM l f
theorem CallOKs.toCall' {E : Env S} {g : Callf S} {f : FuncId} {args : List (TV S)} {objs : List (Obj S)} {Q : Res S → Prop} (h : CallOKs E f args objs Q) : CallOKs (E.withCall g) f args objs Q :=
  CallOKs.unCall (E := E.withCall g) (g := E.callf) h

/-! functions -/
/-- What a loop comes to at another shape of its head. -/
structure LA (S : Sig) where
  q : Pat S
  G : (R : Type) → (Ex → List (TV S) → List (Obj S) → Option R) → Nat → q.Fn (Option R)
  B : (R : Type) → (Ex → List (TV S) → List (Obj S) → Option R) → q.Fn (Option R) → q.Fn (Option R)
/-- A loop that is gone through round by round. -/
structure UD (S : Sig) where
  cur : Nat
  live : List Nat
  fix : List (Tgt × LK S) := []
  out : Ex → List Nat × List (Tgt × LK S)
/-- A loop: the block about it; what lives at its head; its shape; what it comes to (by a bound), and a round of it. -/
structure LD (S : Sig) where
  cur : Nat
  live : List Nat
  fix : List (Tgt × LK S) := []
  out : Ex → List Nat × List (Tgt × LK S)
  q : Pat S
  G : (R : Type) → (Ex → List (TV S) → List (Obj S) → Option R) → Nat → q.Fn (Option R)
  B : (R : Type) → (Ex → List (TV S) → List (Obj S) → Option R) → q.Fn (Option R) → q.Fn (Option R)
  alts : List (LA S) := []
/-- A cut: its first region; and so on. -/
structure CD (S : Sig) where
  key : Nat
  live : List Nat
  fix : List (Tgt × LK S) := []
  out : Ex → List Nat × List (Tgt × LK S)
  q : Pat S
  G : (R : Type) → (Ex → List (TV S) → List (Obj S) → Option R) → q.Fn (Option R)
structure FD (E : Env S) where
  f : FuncId
  fn : Func
  q : Pat S
  g : List (OC E) := []
  loops : List (LD S) := []
  unr : List (UD S) := []
  cuts : List (CD S) := []
  mode : Nat → RM := fun _ => .app
  exit : List (Tgt × LK S) := []
  fork : Bool := false
  /-- ranges over maps go all ways; callees with many outcomes; the order in which drawn regions with calls of them are told -/
  nd : Bool := false
  gm : List (OCM E) := []
  dr : List (Nat × List Nat) := []
def LD.by (L : LD S) (a : LA S) : LD S := { cur := L.cur, live := L.live, fix := L.fix, out := L.out, q := a.q, G := a.G, B := a.B }
def altMat (N : Nat) (R : Type) (K : Ex → List (TV S) → List (Obj S) → Option R) (vals : List (TV S)) (objs : List (Obj S)) : List (LA S) → Option R
  | [] => none
  | a :: l => match a.q.dec vals objs with
    | some x => a.q.app (a.G R K N) x
    | none => altMat N R K vals objs l
def LD.h (N : Nat) (L : LD S) : LHint S := { live := L.live, fix := L.fix, out := L.out, oracle := some fun R vals objs K => match L.q.dec vals objs with
  | some x => L.q.app (L.G R K N) x
  | none => altMat N R K vals objs L.alts }
def UD.h (L : UD S) : LHint S := { live := L.live, fix := L.fix, out := L.out }
def findUD (c : Nat) : List (UD S) → Option (LHint S)
  | [] => none
  | L :: r => bif Nat.beq c L.cur then some L.h else findUD c r
theorem findUD_none {c : Nat} {h : LHint S} : ∀ {l : List (UD S)}, findUD c l = some h → h.oracle = none
  | [], e => by cases e
  | L :: r, e => by
    unfold findUD at e
    cases hb : Nat.beq c L.cur with
    | true => rw [hb] at e; cases e; rfl
    | false => rw [hb] at e; exact findUD_none e
theorem altMat_some {N : Nat} {R : Type} {K : Ex → List (TV S) → List (Obj S) → Option R} {vals : List (TV S)} {objs : List (Obj S)} {r : R} : ∀ {l : List (LA S)}, altMat N R K vals objs l = some r → ∃ a ∈ l, a.q.mat (a.G R K N) vals objs = some r
  | [], e => by cases e
  | a :: l, e => by
    unfold altMat at e
    split at e
    · rename_i x hx
      exact ⟨a, by simp, by unfold Pat.mat; rw [hx]; exact e⟩
    · obtain ⟨b, hb, h⟩ := altMat_some e
      exact ⟨b, List.mem_cons_of_mem _ hb, h⟩
def CD.h (L : CD S) : LHint S := { live := L.live, fix := L.fix, out := L.out, oracle := some fun R vals objs K => L.q.mat (L.G R K) vals objs }
def findLD (N c : Nat) : List (LD S) → Option (LHint S)
  | [] => none
  | L :: r => bif Nat.beq c L.cur then some (L.h N) else findLD N c r
def findCD (c : Nat) : List (CD S) → Option (LHint S)
  | [] => none
  | L :: r => bif Nat.beq c L.key then some L.h else findCD c r
def findC {α : Type} (c : Nat) : List (Nat × α) → Option α
  | [] => none
  | p :: r => bif Nat.beq c p.1 then some p.2 else findC c r
def nodupB : List Nat → Bool
  | [] => true
  | a :: r => !(r.any fun b => Nat.beq a b) && nodupB r
def cutsAt (ids : List Nat) (c : Code) : List (Nat × Nat × Code) := (cutsOf ids c 0).map fun p => ((firstReg p.2).getD 0, p)
namespace FD
variable {E : Env S}
def body (D : FD E) : Code := D.fn.body.getD .ret
def loopsH (D : FD E) (N : Nat) (c : Nat) : Option (LHint S) := match findUD c D.unr with
  | some h => some h
  | none => findLD N c D.loops
def H (D : FD E) (N : Nat) : Hint S := { loops := D.loopsH N, mode := D.mode, exit := D.exit, fork := D.fork, nd := D.nd, cuts := fun c => findCD c D.cuts, multi := isM D.gm, callm := tabMOf D.gm, dr := fun c => findC c D.dr }
/-- The loops, at all their shapes. -/
def loopsX (D : FD E) : List (LD S) := D.loops.flatMap fun L => L :: L.alts.map L.by
def lcode (D : FD E) (c : Nat) : Code := (findC c (loopsOf D.body 0)).getD .ret
def ccode (D : FD E) (c : Nat) : Nat × Code := (findC c (cutsAt (D.cuts.map CD.key) D.body)).getD (0, .ret)
def chk (D : FD E) : Bool := nodupB ((loopsOf D.body 0).map (·.1)) && nodupB ((cutsAt (D.cuts.map CD.key) D.body).map (·.1))
def ee (D : FD E) : Env S := E.withCall (tabOf D.g)
/-- A round of a loop is what is said of it. -/
structure LOk (D : FD E) (N : Nat) (L : LD S) : Prop where
  zero : ∀ (R : Type) (K : Ex → List (TV S) → List (Obj S) → Option R) (x : L.q.T), L.q.app (L.G R K 0) x = none
  succ : ∀ (R : Type) (K : Ex → List (TV S) → List (Obj S) → Option R) (n : Nat) (x : L.q.T), L.q.app (L.G R K (n + 1)) x = L.q.app (L.B R K (L.G R K n)) x
  step : ∀ (R : Type) (K : Ex → List (TV S) → List (Obj S) → Option R) (rec : List (TV S) → List (Obj S) → Option R) (x : L.q.T),
    tcode D.ee (D.H N) D.q.o.length D.fn.ntmps N (D.lcode L.cur) L.cur (mkSt L.live (L.q.ev x) (L.q.eo x)) (roundK (headOf D.q.o.length L.live L.fix) (fun e => headOf D.q.o.length (L.out e).1 (L.out e).2) rec K) = L.q.app (L.B R K (L.q.k rec)) x
def COk (D : FD E) (N : Nat) (L : CD S) : Prop := ∀ (R : Type) (K : Ex → List (TV S) → List (Obj S) → Option R) (x : L.q.T),
    tcode D.ee (D.H N) D.q.o.length D.fn.ntmps N (D.ccode L.key).2 (D.ccode L.key).1 (mkSt L.live (L.q.ev x) (L.q.eo x)) (cutK D.q.o.length L.out K) = L.q.app (L.G R K) x
end FD
def All {α : Type _} (P : α → Prop) : List α → Prop
  | [] => True
  | a :: r => P a ∧ All P r
theorem All.mem {α : Type _} {P : α → Prop} : ∀ {l : List α}, All P l → ∀ a ∈ l, P a
  | _ :: _, h, a, ha => by
    rcases List.mem_cons.1 ha with rfl | ha
    · exact h.1
    · exact All.mem h.2 a ha
theorem findLD_some {N c : Nat} {h : LHint S} : ∀ {l : List (LD S)}, findLD N c l = some h → ∃ L ∈ l, L.cur = c ∧ h = L.h N
  | [], e => by cases e
  | L :: r, e => by
    unfold findLD at e
    cases hb : Nat.beq c L.cur with
    | true => rw [hb] at e; cases e; exact ⟨L, List.mem_cons_self .., (Nat.eq_of_beq_eq_true hb).symm, rfl⟩
    | false => rw [hb] at e; obtain ⟨L', h1, h2⟩ := findLD_some e; exact ⟨L', List.mem_cons_of_mem _ h1, h2⟩
theorem findCD_some {c : Nat} {h : LHint S} : ∀ {l : List (CD S)}, findCD c l = some h → ∃ L ∈ l, L.key = c ∧ h = L.h
  | [], e => by cases e
  | L :: r, e => by
    unfold findCD at e
    cases hb : Nat.beq c L.key with
    | true => rw [hb] at e; cases e; exact ⟨L, List.mem_cons_self .., (Nat.eq_of_beq_eq_true hb).symm, rfl⟩
    | false => rw [hb] at e; obtain ⟨L', h1, h2⟩ := findCD_some e; exact ⟨L', List.mem_cons_of_mem _ h1, h2⟩
theorem findC_mem {α : Type} : ∀ {l : List (Nat × α)}, nodupB (l.map (·.1)) = true → ∀ p ∈ l, findC p.1 l = some p.2
  | q :: r, h, p, hp => by
    simp only [List.map_cons, nodupB, Bool.and_eq_true, Bool.not_eq_true'] at h
    unfold findC
    rcases List.mem_cons.1 hp with rfl | hp
    · rw [Nat.beq_refl]; rfl
    · cases hb : Nat.beq p.1 q.1 with
      | false => exact findC_mem h.2 p hp
      | true =>
        exfalso
        have h1 := List.any_eq_false.1 h.1 p.1 (List.mem_map.2 ⟨p, hp, rfl⟩)
        rw [Nat.eq_of_beq_eq_true hb, Nat.beq_refl] at h1
        exact h1 rfl
theorem findCD_none {c : Nat} : ∀ {l : List (CD S)}, (l.map CD.key).contains c = false → findCD c l = none
  | [], _ => rfl
  | L :: r, h => by
    simp only [List.map_cons, List.contains_cons, Bool.or_eq_false_iff] at h
    unfold findCD
    have : Nat.beq c L.key = false := by
      cases hb : Nat.beq c L.key with
      | false => rfl
      | true => rw [Nat.eq_of_beq_eq_true hb] at h; simp at h
    rw [this]
    exact findCD_none h.2

theorem FD.loopsOK {E : Env S} (D : FD E) (N : Nat) (hchk : D.chk = true) (hL : All (D.LOk N) D.loopsX) (hC : All (D.COk N) D.cuts) : ∀ c, D.fn.body = some c → LoopsOK D.ee (D.H N) D.q.o.length D.fn.ntmps N c 0 := by
  intro c hc
  have hb : D.body = c := by unfold FD.body; rw [hc]; rfl
  unfold FD.chk at hchk
  rw [Bool.and_eq_true, hb] at hchk
  refine loopsOK_all (D.cuts.map CD.key) (fun i hi => findCD_none hi) c 0 (fun p hp h L h1 h2 R vals objs K r hr => ?_) (fun p hp J L h1 h2 R vals objs K r hr => ?_)
  · have h1' : (match findUD p.1 D.unr with | some h => some h | none => findLD N p.1 D.loops) = some h := h1
    split at h1'
    · rename_i h0 hu
      cases h1'
      rw [findUD_none hu] at h2
      cases h2
    obtain ⟨L0, hm0, he0, rfl⟩ := findLD_some h1'
    cases h2
    have hr' : (match L0.q.dec vals objs with
      | some x => L0.q.app (L0.G R K N) x
      | none => altMat N R K vals objs L0.alts) = some r := hr
    obtain ⟨LL, hm, he, hlive, hfix, hout, hr2⟩ : ∃ LL ∈ D.loopsX, LL.cur = p.1 ∧ LL.live = L0.live ∧ LL.fix = L0.fix ∧ LL.out = L0.out ∧ LL.q.mat (LL.G R K N) vals objs = some r := by
      split at hr'
      · rename_i x hx
        exact ⟨L0, List.mem_flatMap.2 ⟨L0, hm0, by simp⟩, he0, rfl, rfl, rfl, by unfold Pat.mat; rw [hx]; exact hr'⟩
      · obtain ⟨a, ha, h⟩ := altMat_some hr'
        exact ⟨L0.by a, List.mem_flatMap.2 ⟨L0, hm0, List.mem_cons_of_mem _ (List.mem_map.2 ⟨a, ha, rfl⟩)⟩, he0, rfl, rfl, rfl, h⟩
    have hok := hL.mem LL hm
    obtain ⟨x, hx1, hx2, hx3⟩ := LL.q.mat_some hr2
    subst hx1; subst hx2
    show loopN (fun vals objs k => tcode D.ee (D.H N) D.q.o.length D.fn.ntmps N p.2 p.1 (mkSt L0.live vals objs) k) (headOf D.q.o.length L0.live L0.fix) (fun e => headOf D.q.o.length (L0.out e).1 (L0.out e).2) N (LL.q.ev x) (LL.q.eo x) K = some r
    rw [← hlive, ← hfix, ← hout]
    have hcode : D.lcode LL.cur = p.2 := by
      unfold FD.lcode
      rw [hb, he, findC_mem hchk.1 p hp]; rfl
    have key : ∀ n x, loopN (fun vals objs k => tcode D.ee (D.H N) D.q.o.length D.fn.ntmps N p.2 p.1 (mkSt LL.live vals objs) k) (headOf D.q.o.length LL.live LL.fix) (fun e => headOf D.q.o.length (LL.out e).1 (LL.out e).2) n (LL.q.ev x) (LL.q.eo x) K = LL.q.app (LL.G R K n) x := by
      intro n
      induction n with
      | zero => intro x; exact (hok.zero R K x).symm
      | succ n ih =>
        intro x
        rw [loopN_succ, hok.succ R K n x]
        have hs := hok.step R K (fun v o => loopN (fun vals objs k => tcode D.ee (D.H N) D.q.o.length D.fn.ntmps N p.2 p.1 (mkSt LL.live vals objs) k) (headOf D.q.o.length LL.live LL.fix) (fun e => headOf D.q.o.length (LL.out e).1 (LL.out e).2) n v o K) x
        rw [hcode, he] at hs
        refine hs.trans ?_
        congr 2
        refine LL.q.ext _ _ fun y => ?_
        exact (LL.q.app_cur _ y).trans (ih y)
    exact (key N x).trans hx3
  · have h1' := h1
    unfold cutAt at h1'
    split at h1'
    · rename_i i hi
      obtain ⟨LL, hm, he, rfl⟩ := findCD_some (show findCD i D.cuts = some J from h1')
      cases h2
      have hok := hC.mem LL hm
      obtain ⟨x, hx1, hx2, hx3⟩ := LL.q.mat_some hr
      subst hx1; subst hx2
      have hcode : D.ccode LL.key = p := by
        unfold FD.ccode
        have hmem : ((firstReg p.2).getD 0, p) ∈ cutsAt (D.cuts.map CD.key) c := List.mem_map.2 ⟨p, hp, rfl⟩
        have := findC_mem hchk.2 _ hmem
        simp only [hi, Option.getD_some] at this
        rw [hb, he, this]; rfl
      have := hok R K x
      rw [hcode] at this
      exact this.trans hx3
    · cases h1'

theorem encOL_length : ∀ (l : List (ShO S)) (y : TOL l), (encOL l y).length = l.length
  | [], _ => rfl
  | _ :: l, y => congrArg (· + 1) (encOL_length l y.2)
/-- A function's contract. -/
theorem FD.ct {E : Env S} (hE : EnvOk E) (D : FD E) (N : Nat)
    (F : (R : Type) → (Res S → Option R) → D.q.Fn (Option R))
    (hfn : E.P.funcs[D.f]? = some D.fn := by kernel_rfl) (hname : (D.fn.name == "runtime.NumGoroutine") = false := by kernel_rfl) (hchk : D.chk = true := by kernel_rfl) (hnd : D.nd = false := by kernel_rfl)
    (hL : All (D.LOk N) D.loopsX := by repeat (first | exact True.intro | refine And.intro ⟨fun _ _ _ => by kernel_rfl, fun _ _ _ _ => by kernel_rfl, fun _ _ _ _ => by kernel_rfl⟩ ?_))
    (hC : All (D.COk N) D.cuts := by repeat (first | exact True.intro | refine And.intro (fun _ _ _ => by kernel_rfl) ?_))
    (run : ∀ (R : Type) (k : Res S → Option R) (x : D.q.T), runFn D.ee (D.H N) N D.fn (D.q.ev x) (D.q.eo x) k = D.q.app (F R k) x := by intros; kernel_rfl) : Ct.ok E ⟨D.f, D.q, F⟩ := by
  intro R x k r h
  have hlen : (D.q.eo x).length = D.q.o.length := encOL_length _ _
  have hlo := D.loopsOK N hchk hL hC
  rw [← hlen] at hlo
  obtain ⟨res, h1, h2⟩ := runFn_sound hE.withCall (tabOf_ok D.g).callf hnd (f := D.f) hfn hname hlo ((run R k x).trans h)
  exact ⟨res, h1, h2.unCall⟩
/-- The contract of a function with many outcomes. -/
theorem FD.ctm {E : Env S} (hE : EnvOk E) (D : FD E) (N : Nat)
    (F : (R : Type) → (Res S → Option R) → D.q.Fn (Option R))
    (hfn : E.P.funcs[D.f]? = some D.fn := by kernel_rfl) (hname : (D.fn.name == "runtime.NumGoroutine") = false := by kernel_rfl) (hchk : D.chk = true := by kernel_rfl)
    (hL : All (D.LOk N) D.loopsX := by repeat (first | exact True.intro | refine And.intro ⟨fun _ _ _ => by kernel_rfl, fun _ _ _ _ => by kernel_rfl, fun _ _ _ _ => by kernel_rfl⟩ ?_))
    (hC : All (D.COk N) D.cuts := by repeat (first | exact True.intro | refine And.intro (fun _ _ _ => by kernel_rfl) ?_))
    (run : ∀ (R : Type) (k : Res S → Option R) (x : D.q.T), runFn D.ee (D.H N) N D.fn (D.q.ev x) (D.q.eo x) k = D.q.app (F R k) x := by intros; kernel_rfl) : Ct.okm E ⟨D.f, D.q, F⟩ := by
  intro R _ x k r h
  have hlen : (D.q.eo x).length = D.q.o.length := encOL_length _ _
  have hlo := D.loopsOK N hchk hL hC
  rw [← hlen] at hlo
  exact (runFn_nd hE.withCall (tabOf_ok D.g).callf (H := D.H N) (fun f args objs R _ k r hk => (tabMOf_ok D.gm f args objs R k r hk).toCall') (f := D.f) hfn hname hlo ((run R k x).trans h)).unCall
/-- The same for one that leaves its objects as they are. -/
theorem FD.ctq {E : Env S} (hE : EnvOk E) (D : FD E) (N : Nat)
    (F : (R : Type) → (TV S → List (Obj S) → Option R) → D.q.Fn (Option R))
    (hfn : E.P.funcs[D.f]? = some D.fn := by kernel_rfl) (hname : (D.fn.name == "runtime.NumGoroutine") = false := by kernel_rfl) (hchk : D.chk = true := by kernel_rfl) (hnd : D.nd = false := by kernel_rfl)
    (hL : All (D.LOk N) D.loopsX := by repeat (first | exact True.intro | refine And.intro ⟨fun _ _ _ => by kernel_rfl, fun _ _ _ _ => by kernel_rfl, fun _ _ _ _ => by kernel_rfl⟩ ?_))
    (hC : All (D.COk N) D.cuts := by repeat (first | exact True.intro | refine And.intro (fun _ _ _ => by kernel_rfl) ?_))
    (run : ∀ (R : Type) (k : Res S → Option R) (x : D.q.T), runFn D.ee (D.H N) N D.fn (D.q.ev x) (D.q.eo x) k = D.q.app (F R fun v ns => k ⟨v, some (D.q.eo x), ns⟩) x := by intros; kernel_rfl) : Ct.ok E ⟨D.f, D.q, fun R k => F R fun v ns => k ⟨v, none, ns⟩⟩ := by
  intro R x k r h
  have hlen : (D.q.eo x).length = D.q.o.length := encOL_length _ _
  have hlo := D.loopsOK N hchk hL hC
  rw [← hlen] at hlo
  have hq : (fun v ns => quietK (D.q.eo x) k ⟨v, some (D.q.eo x), ns⟩) = fun v ns => k ⟨v, none, ns⟩ := funext fun _ => funext fun _ => quietK_eq _ _ _ _
  have hr := run R (quietK (D.q.eo x) k) x
  rw [hq] at hr
  obtain ⟨res, h1, h2⟩ := runFn_sound hE.withCall (tabOf_ok D.g).callf hnd (f := D.f) hfn hname hlo (hr.trans h)
  exact quiet_ok h1 h2.unCall
theorem Ct.okm_none {E : Env S} {c : Ct S} (h : ∀ (R : Type) (k : Res S → Option R) (x : c.q.T), c.q.app (c.F R k) x = none := by intros; kernel_rfl) : c.okm E := fun R _ x k r e => by rw [h] at e; cases e
theorem Ct.ok_none {E : Env S} {c : Ct S} (h : ∀ (R : Type) (k : Res S → Option R) (x : c.q.T), c.q.app (c.F R k) x = none := by intros; kernel_rfl) : c.ok E := fun R x k r e => by rw [h] at e; cases e
end TE

