/- Effect: element types, codes, environment. -/
import Derived.Test.YtfpfmibcnldepaaGreatProg
import Derived.Test.YtfpfmibcnldepaaGreatTS
import Derived.Test.YtfpfmibcnldepaaGreatTE25
import Derived.Test.YtfpfmibcnldepaaGreatTEN
set_option maxRecDepth 100000
set_option linter.unusedVariables false
namespace Ef
open Go TE Go.Proofs

structure Mark where
  Port : Int
  Event : List UInt8
structure Expr where
  Kind : Int
  N : Int
  Name : List UInt8
  Kids : List Expr
  At : Int
structure Act where
  Kind : Int
  Name : List UInt8
  Event : List UInt8
  X : List Expr
  N : Int
  Then : List Act
  Else : List Act
  At : Int
structure Ins where
  Op : Int
  A : Int
  N : Int
  S : List UInt8
structure Node where
  Kind : Int
  Parent : Int
  Last : Int
  Init : Int
  Entry : Int
  Exit : Int
  Name : List UInt8
structure Msg where
  Event : List UInt8
  N : Int
structure Effc where
  Kind : Int
  A : Int
  Msg : Msg
structure Next where
  row : Int
  mark : Mark
inductive K | int | i64 | str | mark | rmark | expr | act | ins | node | msg | effc | next | bool | marks | rmarks | u8 deriving DecidableEq
def El : K → Type
  | .int => Int
  | .i64 => Int
  | .str => List UInt8
  | .mark => Mark
  | .rmark => Mark
  | .expr => Expr
  | .act => Act
  | .ins => Ins
  | .node => Node
  | .msg => Msg
  | .effc => Effc
  | .next => Next
  | .bool => Bool
  | .marks => List Mark
  | .rmarks => List Mark
  | .u8 => Int
def tight : K → Bool
  | _ => false
def S : Sig := ⟨K, El, inferInstance, tight⟩
def enc : (c : K) → El c → List (TV S)
  | .int, (x : Int) => [.int .i64 x]
  | .i64, (x : Int) => [.int .i64 x]
  | .str, (x : List UInt8) => [.str x]
  | .mark, (x : Mark) => [.int .i64 x.Port, .str x.Event]
  | .rmark, (x : Mark) => [.int .i64 x.Port, .str x.Event]
  | .expr, (x : Expr) => [.int .i64 x.Kind, .int .i64 x.N, .str x.Name, .tree .expr x.Kids, .int .i64 x.At]
  | .act, (x : Act) => [.int .i64 x.Kind, .str x.Name, .str x.Event, .tree .expr x.X, .int .i64 x.N, .tree .act x.Then, .tree .act x.Else, .int .i64 x.At]
  | .ins, (x : Ins) => [.int .i64 x.Op, .int .i64 x.A, .int .i64 x.N, .str x.S]
  | .node, (x : Node) => [.int .i64 x.Kind, .int .i64 x.Parent, .int .i64 x.Last, .int .i64 x.Init, .int .i64 x.Entry, .int .i64 x.Exit, .str x.Name]
  | .msg, (x : Msg) => [.str x.Event, .int .i64 x.N]
  | .effc, (x : Effc) => [.int .i64 x.Kind, .int .i64 x.A, .str x.Msg.Event, .int .i64 x.Msg.N]
  | .next, (x : Next) => [.int .i64 x.row, .int .i64 x.mark.Port, .str x.mark.Event]
  | .bool, (x : Bool) => [.bool x]
  | .marks, (x : List Mark) => [.tree .mark x]
  | .rmarks, (x : List Mark) => [.tree .rmark x]
  | .u8, (x : Int) => [.int .u8 x]
def dI (k : IntKind) : TV S → Option Int
  | .int k' n => if k' = k then some n else none
  | _ => none
def dB : TV S → Option Bool
  | .bool b => some b
  | _ => none
def dS : TV S → Option (List UInt8)
  | .str s => some s
  | _ => none
def dT (c : S.K) : TV S → Option (List (S.El c))
  | .nils => some []
  | .tree d xs => if h : d = c then some (h ▸ xs) else none
  | _ => none
def dec : (c : K) → List (TV S) → Option (El c)
  | .int, [a0] => (dI .i64 a0).bind fun a0 => some a0
  | .i64, [a0] => (dI .i64 a0).bind fun a0 => some a0
  | .str, [a0] => (dS a0).bind fun a0 => some a0
  | .mark, [a0, a1] => (dI .i64 a0).bind fun a0 => (dS a1).bind fun a1 => some ((⟨a0, a1⟩ : Mark) : Mark)
  | .rmark, [a0, a1] => (dI .i64 a0).bind fun a0 => (dS a1).bind fun a1 => some ((⟨a0, a1⟩ : Mark) : Mark)
  | .expr, [a0, a1, a2, a3, a4] => (dI .i64 a0).bind fun a0 => (dI .i64 a1).bind fun a1 => (dS a2).bind fun a2 => (dT .expr a3).bind fun a3 => (dI .i64 a4).bind fun a4 => some ((⟨a0, a1, a2, a3, a4⟩ : Expr) : Expr)
  | .act, [a0, a1, a2, a3, a4, a5, a6, a7] => (dI .i64 a0).bind fun a0 => (dS a1).bind fun a1 => (dS a2).bind fun a2 => (dT .expr a3).bind fun a3 => (dI .i64 a4).bind fun a4 => (dT .act a5).bind fun a5 => (dT .act a6).bind fun a6 => (dI .i64 a7).bind fun a7 => some ((⟨a0, a1, a2, a3, a4, a5, a6, a7⟩ : Act) : Act)
  | .ins, [a0, a1, a2, a3] => (dI .i64 a0).bind fun a0 => (dI .i64 a1).bind fun a1 => (dI .i64 a2).bind fun a2 => (dS a3).bind fun a3 => some ((⟨a0, a1, a2, a3⟩ : Ins) : Ins)
  | .node, [a0, a1, a2, a3, a4, a5, a6] => (dI .i64 a0).bind fun a0 => (dI .i64 a1).bind fun a1 => (dI .i64 a2).bind fun a2 => (dI .i64 a3).bind fun a3 => (dI .i64 a4).bind fun a4 => (dI .i64 a5).bind fun a5 => (dS a6).bind fun a6 => some ((⟨a0, a1, a2, a3, a4, a5, a6⟩ : Node) : Node)
  | .msg, [a0, a1] => (dS a0).bind fun a0 => (dI .i64 a1).bind fun a1 => some ((⟨a0, a1⟩ : Msg) : Msg)
  | .effc, [a0, a1, a2, a3] => (dI .i64 a0).bind fun a0 => (dI .i64 a1).bind fun a1 => (dS a2).bind fun a2 => (dI .i64 a3).bind fun a3 => some ((⟨a0, a1, (⟨a2, a3⟩ : Msg)⟩ : Effc) : Effc)
  | .next, [a0, a1, a2] => (dI .i64 a0).bind fun a0 => (dI .i64 a1).bind fun a1 => (dS a2).bind fun a2 => some ((⟨a0, (⟨a1, a2⟩ : Mark)⟩ : Next) : Next)
  | .bool, [a0] => (dB a0).bind fun a0 => some a0
  | .marks, [a0] => (dT .mark a0).bind fun a0 => some a0
  | .rmarks, [a0] => (dT .rmark a0).bind fun a0 => some a0
  | .u8, [a0] => (dI .u8 a0).bind fun a0 => some a0
  | _, _ => none
def sz : K → Nat
  | .int => 1
  | .i64 => 1
  | .str => 1
  | .mark => 2
  | .rmark => 2
  | .expr => 5
  | .act => 8
  | .ins => 4
  | .node => 7
  | .msg => 2
  | .effc => 4
  | .next => 3
  | .bool => 1
  | .marks => 1
  | .rmarks => 1
  | .u8 => 1
def code (t : TypeId) : Option K := match t with
  | 3 => some .int
  | 2 => some .i64
  | 9 => some .str
  | 63 => some .mark
  | 133 => some .rmark
  | 59 => some .expr
  | 61 => some .act
  | 94 => some .ins
  | 171 => some .node
  | 99 => some .msg
  | 101 => some .effc
  | 71 => some .next
  | 4 => some .bool
  | 55 => some .marks
  | 103 => some .rmarks
  | 5 => some .u8
  | _ => none
def asObj (f : FuncId) (j : Nat) : Bool := match f, j with
  | _, _ => false
noncomputable def E (g : Callf S) : Env S := ⟨Tryz.prog, enc, dec, sz, code, flatK Tryz.prog 40, g, asObj⟩
section
variable {EE : Env S} {M : Mem}
theorem dI_CR {k : IntKind} {tv : TV S} {n : Int} {v : Value} (h : dI k tv = some n) (hc : CR EE M tv v) : CR EE M (.int k n) v := by
  cases tv <;> simp only [dI, reduceCtorEq] at h
  split at h
  · rename_i e; cases h; subst e; exact hc
  · cases h
theorem dB_CR {tv : TV S} {b : Bool} {v : Value} (h : dB tv = some b) (hc : CR EE M tv v) : CR EE M (.bool b) v := by
  cases tv <;> simp only [dB, reduceCtorEq, Option.some.injEq] at h
  subst h; exact hc
theorem dS_CR {tv : TV S} {b : List UInt8} {v : Value} (h : dS tv = some b) (hc : CR EE M tv v) : CR EE M (.str b) v := by
  cases tv <;> simp only [dS, reduceCtorEq, Option.some.injEq] at h
  subst h; exact hc
theorem dT_CR {c : S.K} {tv : TV S} {xs : List (S.El c)} {v : Value} (h : dT c tv = some xs) (hc : CR EE M tv v) : CR EE M (.tree (S := S) c xs) v := by
  cases tv <;> simp only [dT, reduceCtorEq, Option.some.injEq] at h
  · subst h; cases hc; exact CR.tree (S := S) (c := c) (xs := []) 0 0 (fun _ _ => undef) (Nat.le_refl _) (fun _ _ => rfl) (.inl rfl) (fun i x j tv hx => by simp at hx) (fun i x j tv hx => by simp at hx)
  · split at h
    · rename_i e; subst e; cases h; exact hc
    · cases h
end
theorem enc_len (c : K) (x : El c) : (enc c x).length = sz c := by cases c <;> rfl
theorem enc_alive (c : K) (x : El c) (tv : TV S) (h : tv ∈ enc c x) : aliveCell tv = true := by
  cases c with
  | int =>
    simp only [enc, List.mem_cons, List.not_mem_nil, or_false] at h
    rcases h with rfl <;> rfl
  | i64 =>
    simp only [enc, List.mem_cons, List.not_mem_nil, or_false] at h
    rcases h with rfl <;> rfl
  | str =>
    simp only [enc, List.mem_cons, List.not_mem_nil, or_false] at h
    rcases h with rfl <;> rfl
  | mark =>
    simp only [enc, List.mem_cons, List.not_mem_nil, or_false] at h
    rcases h with rfl | rfl <;> rfl
  | rmark =>
    simp only [enc, List.mem_cons, List.not_mem_nil, or_false] at h
    rcases h with rfl | rfl <;> rfl
  | expr =>
    simp only [enc, List.mem_cons, List.not_mem_nil, or_false] at h
    rcases h with rfl | rfl | rfl | rfl | rfl <;> rfl
  | act =>
    simp only [enc, List.mem_cons, List.not_mem_nil, or_false] at h
    rcases h with rfl | rfl | rfl | rfl | rfl | rfl | rfl | rfl <;> rfl
  | ins =>
    simp only [enc, List.mem_cons, List.not_mem_nil, or_false] at h
    rcases h with rfl | rfl | rfl | rfl <;> rfl
  | node =>
    simp only [enc, List.mem_cons, List.not_mem_nil, or_false] at h
    rcases h with rfl | rfl | rfl | rfl | rfl | rfl | rfl <;> rfl
  | msg =>
    simp only [enc, List.mem_cons, List.not_mem_nil, or_false] at h
    rcases h with rfl | rfl <;> rfl
  | effc =>
    simp only [enc, List.mem_cons, List.not_mem_nil, or_false] at h
    rcases h with rfl | rfl | rfl | rfl <;> rfl
  | next =>
    simp only [enc, List.mem_cons, List.not_mem_nil, or_false] at h
    rcases h with rfl | rfl | rfl <;> rfl
  | bool =>
    simp only [enc, List.mem_cons, List.not_mem_nil, or_false] at h
    rcases h with rfl <;> rfl
  | marks =>
    simp only [enc, List.mem_cons, List.not_mem_nil, or_false] at h
    rcases h with rfl <;> rfl
  | rmarks =>
    simp only [enc, List.mem_cons, List.not_mem_nil, or_false] at h
    rcases h with rfl <;> rfl
  | u8 =>
    simp only [enc, List.mem_cons, List.not_mem_nil, or_false] at h
    rcases h with rfl <;> rfl

theorem dec_CR {EE : Env S} (c : K) (cs : List (TV S)) (x : El c) (M : Mem) (i : Nat) (tv : TV S) (v : Value) (h1 : dec c cs = some x) (h2 : cs[i]? = some tv) (h3 : CR EE M tv v) : ∃ tv', (enc c x)[i]? = some tv' ∧ CR EE M tv' v := by
  cases c with
  | int =>
    rcases cs with _ | ⟨a0, _ | ⟨b, cs⟩⟩
    · exact absurd h1 (by simp [dec])
    · simp only [dec, Option.bind_eq_some_iff] at h1
      obtain ⟨x0, h0_, he⟩ := h1
      cases he
      rcases i with _ | i
      · simp at h2; subst h2; exact ⟨_, rfl, dI_CR h0_ h3⟩
      · simp at h2
    · exact absurd h1 (by simp [dec])
  | i64 =>
    rcases cs with _ | ⟨a0, _ | ⟨b, cs⟩⟩
    · exact absurd h1 (by simp [dec])
    · simp only [dec, Option.bind_eq_some_iff] at h1
      obtain ⟨x0, h0_, he⟩ := h1
      cases he
      rcases i with _ | i
      · simp at h2; subst h2; exact ⟨_, rfl, dI_CR h0_ h3⟩
      · simp at h2
    · exact absurd h1 (by simp [dec])
  | str =>
    rcases cs with _ | ⟨a0, _ | ⟨b, cs⟩⟩
    · exact absurd h1 (by simp [dec])
    · simp only [dec, Option.bind_eq_some_iff] at h1
      obtain ⟨x0, h0_, he⟩ := h1
      cases he
      rcases i with _ | i
      · simp at h2; subst h2; exact ⟨_, rfl, dS_CR h0_ h3⟩
      · simp at h2
    · exact absurd h1 (by simp [dec])
  | mark =>
    rcases cs with _ | ⟨a0, _ | ⟨a1, _ | ⟨b, cs⟩⟩⟩
    · exact absurd h1 (by simp [dec])
    · exact absurd h1 (by simp [dec])
    · simp only [dec, Option.bind_eq_some_iff] at h1
      obtain ⟨x0, h0_, x1, h1_, he⟩ := h1
      cases he
      rcases i with _ | (_ | i)
      · simp at h2; subst h2; exact ⟨_, rfl, dI_CR h0_ h3⟩
      · simp at h2; subst h2; exact ⟨_, rfl, dS_CR h1_ h3⟩
      · simp at h2
    · exact absurd h1 (by simp [dec])
  | rmark =>
    rcases cs with _ | ⟨a0, _ | ⟨a1, _ | ⟨b, cs⟩⟩⟩
    · exact absurd h1 (by simp [dec])
    · exact absurd h1 (by simp [dec])
    · simp only [dec, Option.bind_eq_some_iff] at h1
      obtain ⟨x0, h0_, x1, h1_, he⟩ := h1
      cases he
      rcases i with _ | (_ | i)
      · simp at h2; subst h2; exact ⟨_, rfl, dI_CR h0_ h3⟩
      · simp at h2; subst h2; exact ⟨_, rfl, dS_CR h1_ h3⟩
      · simp at h2
    · exact absurd h1 (by simp [dec])
  | expr =>
    rcases cs with _ | ⟨a0, _ | ⟨a1, _ | ⟨a2, _ | ⟨a3, _ | ⟨a4, _ | ⟨b, cs⟩⟩⟩⟩⟩⟩
    · exact absurd h1 (by simp [dec])
    · exact absurd h1 (by simp [dec])
    · exact absurd h1 (by simp [dec])
    · exact absurd h1 (by simp [dec])
    · exact absurd h1 (by simp [dec])
    · simp only [dec, Option.bind_eq_some_iff] at h1
      obtain ⟨x0, h0_, x1, h1_, x2, h2_, x3, h3_, x4, h4_, he⟩ := h1
      cases he
      rcases i with _ | (_ | (_ | (_ | (_ | i))))
      · simp at h2; subst h2; exact ⟨_, rfl, dI_CR h0_ h3⟩
      · simp at h2; subst h2; exact ⟨_, rfl, dI_CR h1_ h3⟩
      · simp at h2; subst h2; exact ⟨_, rfl, dS_CR h2_ h3⟩
      · simp at h2; subst h2; exact ⟨_, rfl, dT_CR h3_ h3⟩
      · simp at h2; subst h2; exact ⟨_, rfl, dI_CR h4_ h3⟩
      · simp at h2
    · exact absurd h1 (by simp [dec])
  | act =>
    rcases cs with _ | ⟨a0, _ | ⟨a1, _ | ⟨a2, _ | ⟨a3, _ | ⟨a4, _ | ⟨a5, _ | ⟨a6, _ | ⟨a7, _ | ⟨b, cs⟩⟩⟩⟩⟩⟩⟩⟩⟩
    · exact absurd h1 (by simp [dec])
    · exact absurd h1 (by simp [dec])
    · exact absurd h1 (by simp [dec])
    · exact absurd h1 (by simp [dec])
    · exact absurd h1 (by simp [dec])
    · exact absurd h1 (by simp [dec])
    · exact absurd h1 (by simp [dec])
    · exact absurd h1 (by simp [dec])
    · simp only [dec, Option.bind_eq_some_iff] at h1
      obtain ⟨x0, h0_, x1, h1_, x2, h2_, x3, h3_, x4, h4_, x5, h5_, x6, h6_, x7, h7_, he⟩ := h1
      cases he
      rcases i with _ | (_ | (_ | (_ | (_ | (_ | (_ | (_ | i)))))))
      · simp at h2; subst h2; exact ⟨_, rfl, dI_CR h0_ h3⟩
      · simp at h2; subst h2; exact ⟨_, rfl, dS_CR h1_ h3⟩
      · simp at h2; subst h2; exact ⟨_, rfl, dS_CR h2_ h3⟩
      · simp at h2; subst h2; exact ⟨_, rfl, dT_CR h3_ h3⟩
      · simp at h2; subst h2; exact ⟨_, rfl, dI_CR h4_ h3⟩
      · simp at h2; subst h2; exact ⟨_, rfl, dT_CR h5_ h3⟩
      · simp at h2; subst h2; exact ⟨_, rfl, dT_CR h6_ h3⟩
      · simp at h2; subst h2; exact ⟨_, rfl, dI_CR h7_ h3⟩
      · simp at h2
    · exact absurd h1 (by simp [dec])
  | ins =>
    rcases cs with _ | ⟨a0, _ | ⟨a1, _ | ⟨a2, _ | ⟨a3, _ | ⟨b, cs⟩⟩⟩⟩⟩
    · exact absurd h1 (by simp [dec])
    · exact absurd h1 (by simp [dec])
    · exact absurd h1 (by simp [dec])
    · exact absurd h1 (by simp [dec])
    · simp only [dec, Option.bind_eq_some_iff] at h1
      obtain ⟨x0, h0_, x1, h1_, x2, h2_, x3, h3_, he⟩ := h1
      cases he
      rcases i with _ | (_ | (_ | (_ | i)))
      · simp at h2; subst h2; exact ⟨_, rfl, dI_CR h0_ h3⟩
      · simp at h2; subst h2; exact ⟨_, rfl, dI_CR h1_ h3⟩
      · simp at h2; subst h2; exact ⟨_, rfl, dI_CR h2_ h3⟩
      · simp at h2; subst h2; exact ⟨_, rfl, dS_CR h3_ h3⟩
      · simp at h2
    · exact absurd h1 (by simp [dec])
  | node =>
    rcases cs with _ | ⟨a0, _ | ⟨a1, _ | ⟨a2, _ | ⟨a3, _ | ⟨a4, _ | ⟨a5, _ | ⟨a6, _ | ⟨b, cs⟩⟩⟩⟩⟩⟩⟩⟩
    · exact absurd h1 (by simp [dec])
    · exact absurd h1 (by simp [dec])
    · exact absurd h1 (by simp [dec])
    · exact absurd h1 (by simp [dec])
    · exact absurd h1 (by simp [dec])
    · exact absurd h1 (by simp [dec])
    · exact absurd h1 (by simp [dec])
    · simp only [dec, Option.bind_eq_some_iff] at h1
      obtain ⟨x0, h0_, x1, h1_, x2, h2_, x3, h3_, x4, h4_, x5, h5_, x6, h6_, he⟩ := h1
      cases he
      rcases i with _ | (_ | (_ | (_ | (_ | (_ | (_ | i))))))
      · simp at h2; subst h2; exact ⟨_, rfl, dI_CR h0_ h3⟩
      · simp at h2; subst h2; exact ⟨_, rfl, dI_CR h1_ h3⟩
      · simp at h2; subst h2; exact ⟨_, rfl, dI_CR h2_ h3⟩
      · simp at h2; subst h2; exact ⟨_, rfl, dI_CR h3_ h3⟩
      · simp at h2; subst h2; exact ⟨_, rfl, dI_CR h4_ h3⟩
      · simp at h2; subst h2; exact ⟨_, rfl, dI_CR h5_ h3⟩
      · simp at h2; subst h2; exact ⟨_, rfl, dS_CR h6_ h3⟩
      · simp at h2
    · exact absurd h1 (by simp [dec])
  | msg =>
    rcases cs with _ | ⟨a0, _ | ⟨a1, _ | ⟨b, cs⟩⟩⟩
    · exact absurd h1 (by simp [dec])
    · exact absurd h1 (by simp [dec])
    · simp only [dec, Option.bind_eq_some_iff] at h1
      obtain ⟨x0, h0_, x1, h1_, he⟩ := h1
      cases he
      rcases i with _ | (_ | i)
      · simp at h2; subst h2; exact ⟨_, rfl, dS_CR h0_ h3⟩
      · simp at h2; subst h2; exact ⟨_, rfl, dI_CR h1_ h3⟩
      · simp at h2
    · exact absurd h1 (by simp [dec])
  | effc =>
    rcases cs with _ | ⟨a0, _ | ⟨a1, _ | ⟨a2, _ | ⟨a3, _ | ⟨b, cs⟩⟩⟩⟩⟩
    · exact absurd h1 (by simp [dec])
    · exact absurd h1 (by simp [dec])
    · exact absurd h1 (by simp [dec])
    · exact absurd h1 (by simp [dec])
    · simp only [dec, Option.bind_eq_some_iff] at h1
      obtain ⟨x0, h0_, x1, h1_, x2, h2_, x3, h3_, he⟩ := h1
      cases he
      rcases i with _ | (_ | (_ | (_ | i)))
      · simp at h2; subst h2; exact ⟨_, rfl, dI_CR h0_ h3⟩
      · simp at h2; subst h2; exact ⟨_, rfl, dI_CR h1_ h3⟩
      · simp at h2; subst h2; exact ⟨_, rfl, dS_CR h2_ h3⟩
      · simp at h2; subst h2; exact ⟨_, rfl, dI_CR h3_ h3⟩
      · simp at h2
    · exact absurd h1 (by simp [dec])
  | next =>
    rcases cs with _ | ⟨a0, _ | ⟨a1, _ | ⟨a2, _ | ⟨b, cs⟩⟩⟩⟩
    · exact absurd h1 (by simp [dec])
    · exact absurd h1 (by simp [dec])
    · exact absurd h1 (by simp [dec])
    · simp only [dec, Option.bind_eq_some_iff] at h1
      obtain ⟨x0, h0_, x1, h1_, x2, h2_, he⟩ := h1
      cases he
      rcases i with _ | (_ | (_ | i))
      · simp at h2; subst h2; exact ⟨_, rfl, dI_CR h0_ h3⟩
      · simp at h2; subst h2; exact ⟨_, rfl, dI_CR h1_ h3⟩
      · simp at h2; subst h2; exact ⟨_, rfl, dS_CR h2_ h3⟩
      · simp at h2
    · exact absurd h1 (by simp [dec])
  | bool =>
    rcases cs with _ | ⟨a0, _ | ⟨b, cs⟩⟩
    · exact absurd h1 (by simp [dec])
    · simp only [dec, Option.bind_eq_some_iff] at h1
      obtain ⟨x0, h0_, he⟩ := h1
      cases he
      rcases i with _ | i
      · simp at h2; subst h2; exact ⟨_, rfl, dB_CR h0_ h3⟩
      · simp at h2
    · exact absurd h1 (by simp [dec])
  | marks =>
    rcases cs with _ | ⟨a0, _ | ⟨b, cs⟩⟩
    · exact absurd h1 (by simp [dec])
    · simp only [dec, Option.bind_eq_some_iff] at h1
      obtain ⟨x0, h0_, he⟩ := h1
      cases he
      rcases i with _ | i
      · simp at h2; subst h2; exact ⟨_, rfl, dT_CR h0_ h3⟩
      · simp at h2
    · exact absurd h1 (by simp [dec])
  | rmarks =>
    rcases cs with _ | ⟨a0, _ | ⟨b, cs⟩⟩
    · exact absurd h1 (by simp [dec])
    · simp only [dec, Option.bind_eq_some_iff] at h1
      obtain ⟨x0, h0_, he⟩ := h1
      cases he
      rcases i with _ | i
      · simp at h2; subst h2; exact ⟨_, rfl, dT_CR h0_ h3⟩
      · simp at h2
    · exact absurd h1 (by simp [dec])
  | u8 =>
    rcases cs with _ | ⟨a0, _ | ⟨b, cs⟩⟩
    · exact absurd h1 (by simp [dec])
    · simp only [dec, Option.bind_eq_some_iff] at h1
      obtain ⟨x0, h0_, he⟩ := h1
      cases he
      rcases i with _ | i
      · simp at h2; subst h2; exact ⟨_, rfl, dI_CR h0_ h3⟩
      · simp at h2
    · exact absurd h1 (by simp [dec])

theorem dec_len (c : K) (cs : List (TV S)) (x : El c) (h : dec c cs = some x) : cs.length = sz c := by
  cases c with
  | int =>
    rcases cs with _ | ⟨a0, _ | ⟨b, cs⟩⟩
    · exact absurd h (by simp [dec])
    · rfl
    · exact absurd h (by simp [dec])
  | i64 =>
    rcases cs with _ | ⟨a0, _ | ⟨b, cs⟩⟩
    · exact absurd h (by simp [dec])
    · rfl
    · exact absurd h (by simp [dec])
  | str =>
    rcases cs with _ | ⟨a0, _ | ⟨b, cs⟩⟩
    · exact absurd h (by simp [dec])
    · rfl
    · exact absurd h (by simp [dec])
  | mark =>
    rcases cs with _ | ⟨a0, _ | ⟨a1, _ | ⟨b, cs⟩⟩⟩
    · exact absurd h (by simp [dec])
    · exact absurd h (by simp [dec])
    · rfl
    · exact absurd h (by simp [dec])
  | rmark =>
    rcases cs with _ | ⟨a0, _ | ⟨a1, _ | ⟨b, cs⟩⟩⟩
    · exact absurd h (by simp [dec])
    · exact absurd h (by simp [dec])
    · rfl
    · exact absurd h (by simp [dec])
  | expr =>
    rcases cs with _ | ⟨a0, _ | ⟨a1, _ | ⟨a2, _ | ⟨a3, _ | ⟨a4, _ | ⟨b, cs⟩⟩⟩⟩⟩⟩
    · exact absurd h (by simp [dec])
    · exact absurd h (by simp [dec])
    · exact absurd h (by simp [dec])
    · exact absurd h (by simp [dec])
    · exact absurd h (by simp [dec])
    · rfl
    · exact absurd h (by simp [dec])
  | act =>
    rcases cs with _ | ⟨a0, _ | ⟨a1, _ | ⟨a2, _ | ⟨a3, _ | ⟨a4, _ | ⟨a5, _ | ⟨a6, _ | ⟨a7, _ | ⟨b, cs⟩⟩⟩⟩⟩⟩⟩⟩⟩
    · exact absurd h (by simp [dec])
    · exact absurd h (by simp [dec])
    · exact absurd h (by simp [dec])
    · exact absurd h (by simp [dec])
    · exact absurd h (by simp [dec])
    · exact absurd h (by simp [dec])
    · exact absurd h (by simp [dec])
    · exact absurd h (by simp [dec])
    · rfl
    · exact absurd h (by simp [dec])
  | ins =>
    rcases cs with _ | ⟨a0, _ | ⟨a1, _ | ⟨a2, _ | ⟨a3, _ | ⟨b, cs⟩⟩⟩⟩⟩
    · exact absurd h (by simp [dec])
    · exact absurd h (by simp [dec])
    · exact absurd h (by simp [dec])
    · exact absurd h (by simp [dec])
    · rfl
    · exact absurd h (by simp [dec])
  | node =>
    rcases cs with _ | ⟨a0, _ | ⟨a1, _ | ⟨a2, _ | ⟨a3, _ | ⟨a4, _ | ⟨a5, _ | ⟨a6, _ | ⟨b, cs⟩⟩⟩⟩⟩⟩⟩⟩
    · exact absurd h (by simp [dec])
    · exact absurd h (by simp [dec])
    · exact absurd h (by simp [dec])
    · exact absurd h (by simp [dec])
    · exact absurd h (by simp [dec])
    · exact absurd h (by simp [dec])
    · exact absurd h (by simp [dec])
    · rfl
    · exact absurd h (by simp [dec])
  | msg =>
    rcases cs with _ | ⟨a0, _ | ⟨a1, _ | ⟨b, cs⟩⟩⟩
    · exact absurd h (by simp [dec])
    · exact absurd h (by simp [dec])
    · rfl
    · exact absurd h (by simp [dec])
  | effc =>
    rcases cs with _ | ⟨a0, _ | ⟨a1, _ | ⟨a2, _ | ⟨a3, _ | ⟨b, cs⟩⟩⟩⟩⟩
    · exact absurd h (by simp [dec])
    · exact absurd h (by simp [dec])
    · exact absurd h (by simp [dec])
    · exact absurd h (by simp [dec])
    · rfl
    · exact absurd h (by simp [dec])
  | next =>
    rcases cs with _ | ⟨a0, _ | ⟨a1, _ | ⟨a2, _ | ⟨b, cs⟩⟩⟩⟩
    · exact absurd h (by simp [dec])
    · exact absurd h (by simp [dec])
    · exact absurd h (by simp [dec])
    · rfl
    · exact absurd h (by simp [dec])
  | bool =>
    rcases cs with _ | ⟨a0, _ | ⟨b, cs⟩⟩
    · exact absurd h (by simp [dec])
    · rfl
    · exact absurd h (by simp [dec])
  | marks =>
    rcases cs with _ | ⟨a0, _ | ⟨b, cs⟩⟩
    · exact absurd h (by simp [dec])
    · rfl
    · exact absurd h (by simp [dec])
  | rmarks =>
    rcases cs with _ | ⟨a0, _ | ⟨b, cs⟩⟩
    · exact absurd h (by simp [dec])
    · rfl
    · exact absurd h (by simp [dec])
  | u8 =>
    rcases cs with _ | ⟨a0, _ | ⟨b, cs⟩⟩
    · exact absurd h (by simp [dec])
    · rfl
    · exact absurd h (by simp [dec])

theorem code_size (t : TypeId) (c : K) (h : code t = some c) : ∃ i, Tryz.prog.info? t = some i ∧ i.size = sz c ∧ i.bytes ≤ 2 ^ 11 ∧ ∃ z, i.zero = some z ∧ z.cells.size = sz c := by
  have key : ∀ (t : TypeId) (n : Nat), ((Tryz.prog.info? t).bind fun i => i.zero.map fun z => decide (i.size = n ∧ i.bytes ≤ 2 ^ 11 ∧ z.cells.size = n)) = some true → ∃ i, Tryz.prog.info? t = some i ∧ i.size = n ∧ i.bytes ≤ 2 ^ 11 ∧ ∃ z, i.zero = some z ∧ z.cells.size = n := by
    intro t n h
    obtain ⟨i, h1, h2⟩ := Option.bind_eq_some_iff.1 h
    obtain ⟨z, h3, h4⟩ := Option.map_eq_some_iff.1 h2
    have := of_decide_eq_true h4
    exact ⟨i, h1, this.1, this.2.1, z, h3, this.2.2⟩
  unfold code at h
  split at h <;> first | (cases h; exact key _ _ (by kernel_rfl)) | cases h
theorem sz_pos (c : K) : 1 ≤ sz c := by cases c <;> decide
theorem sz_le (c : K) : sz c ≤ 2 ^ 11 := by cases c <;> decide
theorem E_ok (g : Callf S) : EnvOk (E g) where
  len := enc_len
  pos := sz_pos
  mixed := by kernel_rfl
  size := code_size
  pure := enc_alive
  dec := dec_CR
  szle := sz_le
  decLen := dec_len
  keys _ _ _ h := keyLaw (d := 40) (by decide) h
def kinds : S.K → List (CK S)
  | .int => [.int .i64]
  | .i64 => [.int .i64]
  | .str => [.str]
  | .mark => [.int .i64, .str]
  | .rmark => [.int .i64, .str]
  | .expr => [.int .i64, .int .i64, .str, .sl .expr, .int .i64]
  | .act => [.int .i64, .str, .str, .sl .expr, .int .i64, .sl .act, .sl .act, .int .i64]
  | .ins => [.int .i64, .int .i64, .int .i64, .str]
  | .node => [.int .i64, .int .i64, .int .i64, .int .i64, .int .i64, .int .i64, .str]
  | .msg => [.str, .int .i64]
  | .effc => [.int .i64, .int .i64, .str, .int .i64]
  | .next => [.int .i64, .int .i64, .str]
  | .bool => [.bool]
  | .marks => [.sl .mark]
  | .rmarks => [.sl .rmark]
  | .u8 => [.int .u8]
theorem kinds_ok (g : Callf S) (c : S.K) (e : TypeId) (h : (E g).code e = some c) : kindsOf (E g).P (E g).code 40 e = some (kinds c) := by
  change code e = some c at h
  unfold code at h
  split at h <;> first | (cases h; kernel_rfl) | cases h
theorem enc_tot (g : Callf S) (c : S.K) (tvs : List (TV S)) (n : Nat) (h : all2 (okN (E g) kinds n) (kinds c) tvs) : ∃ x, (E g).enc c x = tvs := by
  cases c with
  | int =>
    obtain ⟨y0, r0, rfl, q0, h0⟩ := all2_cons h
    obtain ⟨x0, rfl, _⟩ := okN_int q0
    obtain rfl := all2_nil h0
    exact ⟨x0, rfl⟩
  | i64 =>
    obtain ⟨y0, r0, rfl, q0, h0⟩ := all2_cons h
    obtain ⟨x0, rfl, _⟩ := okN_int q0
    obtain rfl := all2_nil h0
    exact ⟨x0, rfl⟩
  | str =>
    obtain ⟨y0, r0, rfl, q0, h0⟩ := all2_cons h
    obtain ⟨x0, rfl, _⟩ := okN_str q0
    obtain rfl := all2_nil h0
    exact ⟨x0, rfl⟩
  | mark =>
    obtain ⟨y0, r0, rfl, q0, h0⟩ := all2_cons h
    obtain ⟨x0, rfl, _⟩ := okN_int q0
    obtain ⟨y1, r1, rfl, q1, h1⟩ := all2_cons h0
    obtain ⟨x1, rfl, _⟩ := okN_str q1
    obtain rfl := all2_nil h1
    exact ⟨((⟨x0, x1⟩ : Mark) : Mark), rfl⟩
  | rmark =>
    obtain ⟨y0, r0, rfl, q0, h0⟩ := all2_cons h
    obtain ⟨x0, rfl, _⟩ := okN_int q0
    obtain ⟨y1, r1, rfl, q1, h1⟩ := all2_cons h0
    obtain ⟨x1, rfl, _⟩ := okN_str q1
    obtain rfl := all2_nil h1
    exact ⟨((⟨x0, x1⟩ : Mark) : Mark), rfl⟩
  | expr =>
    obtain ⟨y0, r0, rfl, q0, h0⟩ := all2_cons h
    obtain ⟨x0, rfl, _⟩ := okN_int q0
    obtain ⟨y1, r1, rfl, q1, h1⟩ := all2_cons h0
    obtain ⟨x1, rfl, _⟩ := okN_int q1
    obtain ⟨y2, r2, rfl, q2, h2⟩ := all2_cons h1
    obtain ⟨x2, rfl, _⟩ := okN_str q2
    obtain ⟨y3, r3, rfl, q3, h3⟩ := all2_cons h2
    obtain ⟨_, x3, rfl, _⟩ := okN_sl q3
    obtain ⟨y4, r4, rfl, q4, h4⟩ := all2_cons h3
    obtain ⟨x4, rfl, _⟩ := okN_int q4
    obtain rfl := all2_nil h4
    exact ⟨((⟨x0, x1, x2, x3, x4⟩ : Expr) : Expr), rfl⟩
  | act =>
    obtain ⟨y0, r0, rfl, q0, h0⟩ := all2_cons h
    obtain ⟨x0, rfl, _⟩ := okN_int q0
    obtain ⟨y1, r1, rfl, q1, h1⟩ := all2_cons h0
    obtain ⟨x1, rfl, _⟩ := okN_str q1
    obtain ⟨y2, r2, rfl, q2, h2⟩ := all2_cons h1
    obtain ⟨x2, rfl, _⟩ := okN_str q2
    obtain ⟨y3, r3, rfl, q3, h3⟩ := all2_cons h2
    obtain ⟨_, x3, rfl, _⟩ := okN_sl q3
    obtain ⟨y4, r4, rfl, q4, h4⟩ := all2_cons h3
    obtain ⟨x4, rfl, _⟩ := okN_int q4
    obtain ⟨y5, r5, rfl, q5, h5⟩ := all2_cons h4
    obtain ⟨_, x5, rfl, _⟩ := okN_sl q5
    obtain ⟨y6, r6, rfl, q6, h6⟩ := all2_cons h5
    obtain ⟨_, x6, rfl, _⟩ := okN_sl q6
    obtain ⟨y7, r7, rfl, q7, h7⟩ := all2_cons h6
    obtain ⟨x7, rfl, _⟩ := okN_int q7
    obtain rfl := all2_nil h7
    exact ⟨((⟨x0, x1, x2, x3, x4, x5, x6, x7⟩ : Act) : Act), rfl⟩
  | ins =>
    obtain ⟨y0, r0, rfl, q0, h0⟩ := all2_cons h
    obtain ⟨x0, rfl, _⟩ := okN_int q0
    obtain ⟨y1, r1, rfl, q1, h1⟩ := all2_cons h0
    obtain ⟨x1, rfl, _⟩ := okN_int q1
    obtain ⟨y2, r2, rfl, q2, h2⟩ := all2_cons h1
    obtain ⟨x2, rfl, _⟩ := okN_int q2
    obtain ⟨y3, r3, rfl, q3, h3⟩ := all2_cons h2
    obtain ⟨x3, rfl, _⟩ := okN_str q3
    obtain rfl := all2_nil h3
    exact ⟨((⟨x0, x1, x2, x3⟩ : Ins) : Ins), rfl⟩
  | node =>
    obtain ⟨y0, r0, rfl, q0, h0⟩ := all2_cons h
    obtain ⟨x0, rfl, _⟩ := okN_int q0
    obtain ⟨y1, r1, rfl, q1, h1⟩ := all2_cons h0
    obtain ⟨x1, rfl, _⟩ := okN_int q1
    obtain ⟨y2, r2, rfl, q2, h2⟩ := all2_cons h1
    obtain ⟨x2, rfl, _⟩ := okN_int q2
    obtain ⟨y3, r3, rfl, q3, h3⟩ := all2_cons h2
    obtain ⟨x3, rfl, _⟩ := okN_int q3
    obtain ⟨y4, r4, rfl, q4, h4⟩ := all2_cons h3
    obtain ⟨x4, rfl, _⟩ := okN_int q4
    obtain ⟨y5, r5, rfl, q5, h5⟩ := all2_cons h4
    obtain ⟨x5, rfl, _⟩ := okN_int q5
    obtain ⟨y6, r6, rfl, q6, h6⟩ := all2_cons h5
    obtain ⟨x6, rfl, _⟩ := okN_str q6
    obtain rfl := all2_nil h6
    exact ⟨((⟨x0, x1, x2, x3, x4, x5, x6⟩ : Node) : Node), rfl⟩
  | msg =>
    obtain ⟨y0, r0, rfl, q0, h0⟩ := all2_cons h
    obtain ⟨x0, rfl, _⟩ := okN_str q0
    obtain ⟨y1, r1, rfl, q1, h1⟩ := all2_cons h0
    obtain ⟨x1, rfl, _⟩ := okN_int q1
    obtain rfl := all2_nil h1
    exact ⟨((⟨x0, x1⟩ : Msg) : Msg), rfl⟩
  | effc =>
    obtain ⟨y0, r0, rfl, q0, h0⟩ := all2_cons h
    obtain ⟨x0, rfl, _⟩ := okN_int q0
    obtain ⟨y1, r1, rfl, q1, h1⟩ := all2_cons h0
    obtain ⟨x1, rfl, _⟩ := okN_int q1
    obtain ⟨y2, r2, rfl, q2, h2⟩ := all2_cons h1
    obtain ⟨x2, rfl, _⟩ := okN_str q2
    obtain ⟨y3, r3, rfl, q3, h3⟩ := all2_cons h2
    obtain ⟨x3, rfl, _⟩ := okN_int q3
    obtain rfl := all2_nil h3
    exact ⟨((⟨x0, x1, (⟨x2, x3⟩ : Msg)⟩ : Effc) : Effc), rfl⟩
  | next =>
    obtain ⟨y0, r0, rfl, q0, h0⟩ := all2_cons h
    obtain ⟨x0, rfl, _⟩ := okN_int q0
    obtain ⟨y1, r1, rfl, q1, h1⟩ := all2_cons h0
    obtain ⟨x1, rfl, _⟩ := okN_int q1
    obtain ⟨y2, r2, rfl, q2, h2⟩ := all2_cons h1
    obtain ⟨x2, rfl, _⟩ := okN_str q2
    obtain rfl := all2_nil h2
    exact ⟨((⟨x0, (⟨x1, x2⟩ : Mark)⟩ : Next) : Next), rfl⟩
  | bool =>
    obtain ⟨y0, r0, rfl, q0, h0⟩ := all2_cons h
    obtain ⟨x0, rfl⟩ := okN_bool q0
    obtain rfl := all2_nil h0
    exact ⟨x0, rfl⟩
  | marks =>
    obtain ⟨y0, r0, rfl, q0, h0⟩ := all2_cons h
    obtain ⟨_, x0, rfl, _⟩ := okN_sl q0
    obtain rfl := all2_nil h0
    exact ⟨x0, rfl⟩
  | rmarks =>
    obtain ⟨y0, r0, rfl, q0, h0⟩ := all2_cons h
    obtain ⟨_, x0, rfl, _⟩ := okN_sl q0
    obtain rfl := all2_nil h0
    exact ⟨x0, rfl⟩
  | u8 =>
    obtain ⟨y0, r0, rfl, q0, h0⟩ := all2_cons h
    obtain ⟨x0, rfl, _⟩ := okN_int q0
    obtain rfl := all2_nil h0
    exact ⟨x0, rfl⟩

noncomputable abbrev E0 : Env S := E noCalls
theorem e0 : EnvOk E0 := E_ok noCalls
abbrev pK {Y : Type} (q : Pat S) (K : List (TV S) → List (Obj S) → Y) : q.Fn Y := q.k K
abbrev oK {Y : Type} (o : Out S) (K : Res S → Y) : o.v.Fn (FnOL o.xs (FnOL o.ns Y)) := o.k K
abbrev oQ {Y : Type} (o : Out S) (K : TV S → List (Obj S) → Y) : o.v.Fn (FnOL o.ns Y) := o.q K
end Ef

