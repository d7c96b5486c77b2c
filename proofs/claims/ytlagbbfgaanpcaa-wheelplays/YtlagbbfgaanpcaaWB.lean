/- Wheel: element types, codes, environment. -/
import Derived.Test.YtlagbbfgaanpcaaProg
import Derived.Test.YtlagbbfgaanpcaaTE22
import Derived.Test.YtlagbbfgaanpcaaTE25
set_option maxRecDepth 100000
set_option linter.unusedVariables false
namespace Wh
open Go TE Go.Proofs

structure Fired where
  inst : Int
  timer : Int
structure Timer where
  f : Fired
  left : Int
structure Step where
  what : Int
  f : Fired
  n : Int
inductive K | int | bool | u16 | fired | timer | step deriving DecidableEq
def El : K → Type
  | .int => Int
  | .bool => Bool
  | .u16 => Int
  | .fired => Fired
  | .timer => Timer
  | .step => Step
def S : Sig := ⟨K, El, inferInstance⟩
def enc : (c : K) → El c → List (TV S)
  | .int, (x : Int) => [.int .i64 x]
  | .bool, (x : Bool) => [.bool x]
  | .u16, (x : Int) => [.int .u16 x]
  | .fired, (x : Fired) => [.int .i64 x.inst, .int .i64 x.timer]
  | .timer, (x : Timer) => [.int .i64 x.f.inst, .int .i64 x.f.timer, .int .i64 x.left]
  | .step, (x : Step) => [.int .i64 x.what, .int .i64 x.f.inst, .int .i64 x.f.timer, .int .i64 x.n]
def dI (k : IntKind) : TV S → Option Int
  | .int k' n => if k' = k then some n else none
  | _ => none
def dB : TV S → Option Bool
  | .bool b => some b
  | _ => none
def dS : TV S → Option (List UInt8)
  | .str s => some s
  | _ => none
def dT (c : S.K) : TV S → Option (List (S.El c))
  | .nils => some []
  | .tree d xs => if h : d = c then some (h ▸ xs) else none
  | _ => none
def dec : (c : K) → List (TV S) → Option (El c)
  | .int, [a0] => (dI .i64 a0).bind fun a0 => some a0
  | .bool, [a0] => (dB a0).bind fun a0 => some a0
  | .u16, [a0] => (dI .u16 a0).bind fun a0 => some a0
  | .fired, [a0, a1] => (dI .i64 a0).bind fun a0 => (dI .i64 a1).bind fun a1 => some ((⟨a0, a1⟩ : Fired) : Fired)
  | .timer, [a0, a1, a2] => (dI .i64 a0).bind fun a0 => (dI .i64 a1).bind fun a1 => (dI .i64 a2).bind fun a2 => some ((⟨(⟨a0, a1⟩ : Fired), a2⟩ : Timer) : Timer)
  | .step, [a0, a1, a2, a3] => (dI .i64 a0).bind fun a0 => (dI .i64 a1).bind fun a1 => (dI .i64 a2).bind fun a2 => (dI .i64 a3).bind fun a3 => some ((⟨a0, (⟨a1, a2⟩ : Fired), a3⟩ : Step) : Step)
  | _, _ => none
def sz : K → Nat
  | .int => 1
  | .bool => 1
  | .u16 => 1
  | .fired => 2
  | .timer => 3
  | .step => 4
def code (t : TypeId) : Option K := match t with
  | 3 => some .int
  | 4 => some .bool
  | 35 => some .u16
  | 25 => some .fired
  | 59 => some .timer
  | 46 => some .step
  | _ => none
def asObj (f : FuncId) (j : Nat) : Bool := match f, j with
  | _, _ => false
noncomputable def E (g : Callf S) : Env S := ⟨Try.prog, enc, dec, sz, code, flatK Try.prog 40, g, asObj⟩
section
variable {EE : Env S} {M : Mem}
theorem dI_CR {k : IntKind} {tv : TV S} {n : Int} {v : Value} (h : dI k tv = some n) (hc : CR EE M tv v) : CR EE M (.int k n) v := by
  cases tv <;> simp only [dI, reduceCtorEq] at h
  split at h
  · rename_i e; cases h; subst e; exact hc
  · cases h
theorem dB_CR {tv : TV S} {b : Bool} {v : Value} (h : dB tv = some b) (hc : CR EE M tv v) : CR EE M (.bool b) v := by
  cases tv <;> simp only [dB, reduceCtorEq, Option.some.injEq] at h
  subst h; exact hc
theorem dS_CR {tv : TV S} {b : List UInt8} {v : Value} (h : dS tv = some b) (hc : CR EE M tv v) : CR EE M (.str b) v := by
  cases tv <;> simp only [dS, reduceCtorEq, Option.some.injEq] at h
  subst h; exact hc
theorem dT_CR {c : S.K} {tv : TV S} {xs : List (S.El c)} {v : Value} (h : dT c tv = some xs) (hc : CR EE M tv v) : CR EE M (.tree (S := S) c xs) v := by
  cases tv <;> simp only [dT, reduceCtorEq, Option.some.injEq] at h
  · subst h; cases hc; exact CR.tree (S := S) (c := c) (xs := []) 0 0 (fun _ _ => undef) (Nat.le_refl _) (.inl rfl) (fun i x j tv hx => by simp at hx) (fun i x j tv hx => by simp at hx)
  · split at h
    · rename_i e; subst e; cases h; exact hc
    · cases h
end
theorem enc_len (c : K) (x : El c) : (enc c x).length = sz c := by cases c <;> rfl
theorem enc_alive (c : K) (x : El c) (tv : TV S) (h : tv ∈ enc c x) : aliveCell tv = true := by
  cases c with
  | int =>
    simp only [enc, List.mem_cons, List.not_mem_nil, or_false] at h
    rcases h with rfl <;> rfl
  | bool =>
    simp only [enc, List.mem_cons, List.not_mem_nil, or_false] at h
    rcases h with rfl <;> rfl
  | u16 =>
    simp only [enc, List.mem_cons, List.not_mem_nil, or_false] at h
    rcases h with rfl <;> rfl
  | fired =>
    simp only [enc, List.mem_cons, List.not_mem_nil, or_false] at h
    rcases h with rfl | rfl <;> rfl
  | timer =>
    simp only [enc, List.mem_cons, List.not_mem_nil, or_false] at h
    rcases h with rfl | rfl | rfl <;> rfl
  | step =>
    simp only [enc, List.mem_cons, List.not_mem_nil, or_false] at h
    rcases h with rfl | rfl | rfl | rfl <;> rfl

theorem dec_CR {EE : Env S} (c : K) (cs : List (TV S)) (x : El c) (M : Mem) (i : Nat) (tv : TV S) (v : Value) (h1 : dec c cs = some x) (h2 : cs[i]? = some tv) (h3 : CR EE M tv v) : ∃ tv', (enc c x)[i]? = some tv' ∧ CR EE M tv' v := by
  cases c with
  | int =>
    rcases cs with _ | ⟨a0, _ | ⟨b, cs⟩⟩
    · exact absurd h1 (by simp [dec])
    · simp only [dec, Option.bind_eq_some_iff] at h1
      obtain ⟨x0, h0_, he⟩ := h1
      cases he
      rcases i with _ | i
      · simp at h2; subst h2; exact ⟨_, rfl, dI_CR h0_ h3⟩
      · simp at h2
    · exact absurd h1 (by simp [dec])
  | bool =>
    rcases cs with _ | ⟨a0, _ | ⟨b, cs⟩⟩
    · exact absurd h1 (by simp [dec])
    · simp only [dec, Option.bind_eq_some_iff] at h1
      obtain ⟨x0, h0_, he⟩ := h1
      cases he
      rcases i with _ | i
      · simp at h2; subst h2; exact ⟨_, rfl, dB_CR h0_ h3⟩
      · simp at h2
    · exact absurd h1 (by simp [dec])
  | u16 =>
    rcases cs with _ | ⟨a0, _ | ⟨b, cs⟩⟩
    · exact absurd h1 (by simp [dec])
    · simp only [dec, Option.bind_eq_some_iff] at h1
      obtain ⟨x0, h0_, he⟩ := h1
      cases he
      rcases i with _ | i
      · simp at h2; subst h2; exact ⟨_, rfl, dI_CR h0_ h3⟩
      · simp at h2
    · exact absurd h1 (by simp [dec])
  | fired =>
    rcases cs with _ | ⟨a0, _ | ⟨a1, _ | ⟨b, cs⟩⟩⟩
    · exact absurd h1 (by simp [dec])
    · exact absurd h1 (by simp [dec])
    · simp only [dec, Option.bind_eq_some_iff] at h1
      obtain ⟨x0, h0_, x1, h1_, he⟩ := h1
      cases he
      rcases i with _ | (_ | i)
      · simp at h2; subst h2; exact ⟨_, rfl, dI_CR h0_ h3⟩
      · simp at h2; subst h2; exact ⟨_, rfl, dI_CR h1_ h3⟩
      · simp at h2
    · exact absurd h1 (by simp [dec])
  | timer =>
    rcases cs with _ | ⟨a0, _ | ⟨a1, _ | ⟨a2, _ | ⟨b, cs⟩⟩⟩⟩
    · exact absurd h1 (by simp [dec])
    · exact absurd h1 (by simp [dec])
    · exact absurd h1 (by simp [dec])
    · simp only [dec, Option.bind_eq_some_iff] at h1
      obtain ⟨x0, h0_, x1, h1_, x2, h2_, he⟩ := h1
      cases he
      rcases i with _ | (_ | (_ | i))
      · simp at h2; subst h2; exact ⟨_, rfl, dI_CR h0_ h3⟩
      · simp at h2; subst h2; exact ⟨_, rfl, dI_CR h1_ h3⟩
      · simp at h2; subst h2; exact ⟨_, rfl, dI_CR h2_ h3⟩
      · simp at h2
    · exact absurd h1 (by simp [dec])
  | step =>
    rcases cs with _ | ⟨a0, _ | ⟨a1, _ | ⟨a2, _ | ⟨a3, _ | ⟨b, cs⟩⟩⟩⟩⟩
    · exact absurd h1 (by simp [dec])
    · exact absurd h1 (by simp [dec])
    · exact absurd h1 (by simp [dec])
    · exact absurd h1 (by simp [dec])
    · simp only [dec, Option.bind_eq_some_iff] at h1
      obtain ⟨x0, h0_, x1, h1_, x2, h2_, x3, h3_, he⟩ := h1
      cases he
      rcases i with _ | (_ | (_ | (_ | i)))
      · simp at h2; subst h2; exact ⟨_, rfl, dI_CR h0_ h3⟩
      · simp at h2; subst h2; exact ⟨_, rfl, dI_CR h1_ h3⟩
      · simp at h2; subst h2; exact ⟨_, rfl, dI_CR h2_ h3⟩
      · simp at h2; subst h2; exact ⟨_, rfl, dI_CR h3_ h3⟩
      · simp at h2
    · exact absurd h1 (by simp [dec])

theorem dec_len (c : K) (cs : List (TV S)) (x : El c) (h : dec c cs = some x) : cs.length = sz c := by
  cases c with
  | int =>
    rcases cs with _ | ⟨a0, _ | ⟨b, cs⟩⟩
    · exact absurd h (by simp [dec])
    · rfl
    · exact absurd h (by simp [dec])
  | bool =>
    rcases cs with _ | ⟨a0, _ | ⟨b, cs⟩⟩
    · exact absurd h (by simp [dec])
    · rfl
    · exact absurd h (by simp [dec])
  | u16 =>
    rcases cs with _ | ⟨a0, _ | ⟨b, cs⟩⟩
    · exact absurd h (by simp [dec])
    · rfl
    · exact absurd h (by simp [dec])
  | fired =>
    rcases cs with _ | ⟨a0, _ | ⟨a1, _ | ⟨b, cs⟩⟩⟩
    · exact absurd h (by simp [dec])
    · exact absurd h (by simp [dec])
    · rfl
    · exact absurd h (by simp [dec])
  | timer =>
    rcases cs with _ | ⟨a0, _ | ⟨a1, _ | ⟨a2, _ | ⟨b, cs⟩⟩⟩⟩
    · exact absurd h (by simp [dec])
    · exact absurd h (by simp [dec])
    · exact absurd h (by simp [dec])
    · rfl
    · exact absurd h (by simp [dec])
  | step =>
    rcases cs with _ | ⟨a0, _ | ⟨a1, _ | ⟨a2, _ | ⟨a3, _ | ⟨b, cs⟩⟩⟩⟩⟩
    · exact absurd h (by simp [dec])
    · exact absurd h (by simp [dec])
    · exact absurd h (by simp [dec])
    · exact absurd h (by simp [dec])
    · rfl
    · exact absurd h (by simp [dec])

theorem code_size (t : TypeId) (c : K) (h : code t = some c) : ∃ i, Try.prog.info? t = some i ∧ i.size = sz c ∧ i.bytes ≤ 2 ^ 11 ∧ ∃ z, i.zero = some z ∧ z.cells.size = sz c := by
  have key : ∀ (t : TypeId) (n : Nat), ((Try.prog.info? t).bind fun i => i.zero.map fun z => decide (i.size = n ∧ i.bytes ≤ 2 ^ 11 ∧ z.cells.size = n)) = some true → ∃ i, Try.prog.info? t = some i ∧ i.size = n ∧ i.bytes ≤ 2 ^ 11 ∧ ∃ z, i.zero = some z ∧ z.cells.size = n := by
    intro t n h
    obtain ⟨i, h1, h2⟩ := Option.bind_eq_some_iff.1 h
    obtain ⟨z, h3, h4⟩ := Option.map_eq_some_iff.1 h2
    have := of_decide_eq_true h4
    exact ⟨i, h1, this.1, this.2.1, z, h3, this.2.2⟩
  unfold code at h
  split at h <;> first | (cases h; exact key _ _ (by kernel_rfl)) | cases h
theorem sz_pos (c : K) : 1 ≤ sz c := by cases c <;> decide
theorem sz_le (c : K) : sz c ≤ 2 ^ 11 := by cases c <;> decide
theorem E_ok (g : Callf S) : EnvOk (E g) where
  len := enc_len
  pos := sz_pos
  mixed := by kernel_rfl
  size := code_size
  pure := enc_alive
  dec := dec_CR
  szle := sz_le
  decLen := dec_len
  keys _ _ _ h := keyLaw (d := 40) (by decide) h
def kinds : S.K → List (CK S)
  | .int => [.int .i64]
  | .bool => [.bool]
  | .u16 => [.int .u16]
  | .fired => [.int .i64, .int .i64]
  | .timer => [.int .i64, .int .i64, .int .i64]
  | .step => [.int .i64, .int .i64, .int .i64, .int .i64]
theorem kinds_ok (g : Callf S) (c : S.K) (e : TypeId) (h : (E g).code e = some c) : kindsOf (E g).P (E g).code 40 e = some (kinds c) := by
  change code e = some c at h
  unfold code at h
  split at h <;> first | (cases h; kernel_rfl) | cases h
theorem enc_tot (g : Callf S) (c : S.K) (tvs : List (TV S)) (n : Nat) (h : all2 (okN (E g) kinds n) (kinds c) tvs) : ∃ x, (E g).enc c x = tvs := by
  cases c with
  | int =>
    obtain ⟨y0, r0, rfl, q0, h0⟩ := all2_cons h
    obtain ⟨x0, rfl, _⟩ := okN_int q0
    obtain rfl := all2_nil h0
    exact ⟨x0, rfl⟩
  | bool =>
    obtain ⟨y0, r0, rfl, q0, h0⟩ := all2_cons h
    obtain ⟨x0, rfl⟩ := okN_bool q0
    obtain rfl := all2_nil h0
    exact ⟨x0, rfl⟩
  | u16 =>
    obtain ⟨y0, r0, rfl, q0, h0⟩ := all2_cons h
    obtain ⟨x0, rfl, _⟩ := okN_int q0
    obtain rfl := all2_nil h0
    exact ⟨x0, rfl⟩
  | fired =>
    obtain ⟨y0, r0, rfl, q0, h0⟩ := all2_cons h
    obtain ⟨x0, rfl, _⟩ := okN_int q0
    obtain ⟨y1, r1, rfl, q1, h1⟩ := all2_cons h0
    obtain ⟨x1, rfl, _⟩ := okN_int q1
    obtain rfl := all2_nil h1
    exact ⟨((⟨x0, x1⟩ : Fired) : Fired), rfl⟩
  | timer =>
    obtain ⟨y0, r0, rfl, q0, h0⟩ := all2_cons h
    obtain ⟨x0, rfl, _⟩ := okN_int q0
    obtain ⟨y1, r1, rfl, q1, h1⟩ := all2_cons h0
    obtain ⟨x1, rfl, _⟩ := okN_int q1
    obtain ⟨y2, r2, rfl, q2, h2⟩ := all2_cons h1
    obtain ⟨x2, rfl, _⟩ := okN_int q2
    obtain rfl := all2_nil h2
    exact ⟨((⟨(⟨x0, x1⟩ : Fired), x2⟩ : Timer) : Timer), rfl⟩
  | step =>
    obtain ⟨y0, r0, rfl, q0, h0⟩ := all2_cons h
    obtain ⟨x0, rfl, _⟩ := okN_int q0
    obtain ⟨y1, r1, rfl, q1, h1⟩ := all2_cons h0
    obtain ⟨x1, rfl, _⟩ := okN_int q1
    obtain ⟨y2, r2, rfl, q2, h2⟩ := all2_cons h1
    obtain ⟨x2, rfl, _⟩ := okN_int q2
    obtain ⟨y3, r3, rfl, q3, h3⟩ := all2_cons h2
    obtain ⟨x3, rfl, _⟩ := okN_int q3
    obtain rfl := all2_nil h3
    exact ⟨((⟨x0, (⟨x1, x2⟩ : Fired), x3⟩ : Step) : Step), rfl⟩

theorem unE {g : Callf S} {f : FuncId} {args : List (TV S)} {objs : List (Obj S)} {res : Res S} (h : CallOK (E g) f args objs res) : CallOK (E noCalls) f args objs res := CallOK.unCall (E := E noCalls) (g := g) h
theorem unEs {g : Callf S} {f : FuncId} {args : List (TV S)} {objs : List (Obj S)} {Q : Res S → Prop} (h : CallOKs (E g) f args objs Q) : CallOKs (E noCalls) f args objs Q := CallOKs.unCall (E := E noCalls) (g := g) h
end Wh
