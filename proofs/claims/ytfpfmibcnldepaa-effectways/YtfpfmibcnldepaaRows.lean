/-
  No cell of these rows narrows 'for every input' (looked for: loops, veiled, ifaces, maps, wideKeys, modest, calm, conditions, laid).
  DERIVED. THE GIVEN ROWS OF THIS SEAT. 4 by the template 'for every input the law returns true; each argument reads behind the call as it read before'; 0 by the template 'total and deterministic' (their statements: YtfpfmibcnldepaaTotals.lean).
  GIVEN WITH THE SEED: the statements are not yours to turn. If you find one false, say at which input.
  Laid BY PROGRAM, IN A SANDBOX (cutbox-rows.mjs): the forced cells as the released guide's own fill.sh prints them over the translation 51f9d590cd2e9521… (all of the seat's roots in one cut). By AI agents, Wed Nov 11 2026. No macro, syntax, notation, axiom, sorry.
-/
import Derived.Test.YtfpfmibcnldepaaChecked
import GoSem.Claim
import GoSem.ClaimJoined
import GoSem.ClaimMapViews
import Derived.JoinedTies
import Derived.KernelRfl
namespace Go.Proofs.Ytfpfmibcnldepaa
/- THE CELL 'sum', in the pinned program and in every row, IS THE sha256 OF THE DUMP (.gsa) THAT YtfpfmibcnldepaaProg.lean LOADS. Nothing in Lean hashes anything: it is a label: what it is worth is what the hold of that sum in a sandbox is worth. -/
noncomputable def Try.pinned : Pinned := { name := "ytfpfmibcnldepaa", sum := "51f9d590cd2e952107f6271a16f1b8e119832e2e21403cec8bae871de9ee8400", checked := Try.checked }
namespace Rows
def none {H : Type} : Left H := { results := [], args := [] }

/-- 'cotillionlaw30.EffectWays': WHATEVER THE INPUT: true; the input reads as it did. -/
def effectWaysSpec : ChangeSpec := { name := "effectWays", fn := fun _ => fun
  | [d1, d2] => { results := [.lit (.bool true)], args := [d1, d2] }
  | _ => none }
def effectWaysRow : OpenClaim := { program := "ytfpfmibcnldepaa", sum := "51f9d590cd2e952107f6271a16f1b8e119832e2e21403cec8bae871de9ee8400", func := "cotillion/cotillionlaw30.EffectWays", spec := "effectWays", unfollowed := true, recurses := true, plainKeys := false, apart := false }
def EffectWaysSaid : Prop := effectWaysRow.holds Try.pinned (OpenSpec.ofChange effectWaysSpec)

/-- ITS FALSE NEIGHBOUR: 'it returns false'. Refute it at one input. -/
def effectWaysWrong : ChangeSpec := { name := "effectWays", fn := fun _ => fun
  | [d1, d2] => { results := [.lit (.bool false)], args := [d1, d2] }
  | _ => none }
def EffectWaysWrongFalsely : Prop := effectWaysRow.holds Try.pinned (OpenSpec.ofChange effectWaysWrong)

/-- 'cotillionlaw30.EffectErrs': WHATEVER THE INPUT: true; the input reads as it did. -/
def effectErrsSpec : ChangeSpec := { name := "effectErrs", fn := fun _ => fun
  | [d1, d2, d3, d4, d5] => { results := [.lit (.bool true)], args := [d1, d2, d3, d4, d5] }
  | _ => none }
def effectErrsRow : OpenClaim := { program := "ytfpfmibcnldepaa", sum := "51f9d590cd2e952107f6271a16f1b8e119832e2e21403cec8bae871de9ee8400", func := "cotillion/cotillionlaw30.EffectErrs", spec := "effectErrs", unfollowed := true, recurses := true, plainKeys := false, apart := false }
def EffectErrsSaid : Prop := effectErrsRow.holds Try.pinned (OpenSpec.ofChange effectErrsSpec)

/-- ITS FALSE NEIGHBOUR: 'it returns false'. Refute it at one input. -/
def effectErrsWrong : ChangeSpec := { name := "effectErrs", fn := fun _ => fun
  | [d1, d2, d3, d4, d5] => { results := [.lit (.bool false)], args := [d1, d2, d3, d4, d5] }
  | _ => none }
def EffectErrsWrongFalsely : Prop := effectErrsRow.holds Try.pinned (OpenSpec.ofChange effectErrsWrong)

/-- 'cotillionlaw30.EffectMany': WHATEVER THE INPUT: true; the input reads as it did. -/
def effectManySpec : ChangeSpec := { name := "effectMany", fn := fun _ => fun
  | [d1, d2] => { results := [.lit (.bool true)], args := [d1, d2] }
  | _ => none }
def effectManyRow : OpenClaim := { program := "ytfpfmibcnldepaa", sum := "51f9d590cd2e952107f6271a16f1b8e119832e2e21403cec8bae871de9ee8400", func := "cotillion/cotillionlaw30.EffectMany", spec := "effectMany", unfollowed := true, recurses := true, plainKeys := false, apart := false }
def EffectManySaid : Prop := effectManyRow.holds Try.pinned (OpenSpec.ofChange effectManySpec)

/-- ITS FALSE NEIGHBOUR: 'it returns false'. Refute it at one input. -/
def effectManyWrong : ChangeSpec := { name := "effectMany", fn := fun _ => fun
  | [d1, d2] => { results := [.lit (.bool false)], args := [d1, d2] }
  | _ => none }
def EffectManyWrongFalsely : Prop := effectManyRow.holds Try.pinned (OpenSpec.ofChange effectManyWrong)

/-- 'cotillionlaw30.EffectOrder': WHATEVER THE INPUT: true; the input reads as it did. -/
def effectOrderSpec : ChangeSpec := { name := "effectOrder", fn := fun _ => fun
  | [d1, d2] => { results := [.lit (.bool true)], args := [d1, d2] }
  | _ => none }
def effectOrderRow : OpenClaim := { program := "ytfpfmibcnldepaa", sum := "51f9d590cd2e952107f6271a16f1b8e119832e2e21403cec8bae871de9ee8400", func := "cotillion/cotillionlaw30.EffectOrder", spec := "effectOrder", unfollowed := true, recurses := true, plainKeys := false, apart := false }
def EffectOrderSaid : Prop := effectOrderRow.holds Try.pinned (OpenSpec.ofChange effectOrderSpec)

/-- ITS FALSE NEIGHBOUR: 'it returns false'. Refute it at one input. -/
def effectOrderWrong : ChangeSpec := { name := "effectOrder", fn := fun _ => fun
  | [d1, d2] => { results := [.lit (.bool false)], args := [d1, d2] }
  | _ => none }
def EffectOrderWrongFalsely : Prop := effectOrderRow.holds Try.pinned (OpenSpec.ofChange effectOrderWrong)

/- THE SECOND FORM. 'bulk': how many values and letters a reading holds, each counted each time it is reached (what is shared counts as often as it is met; a slice's spare places count too). A statement '..UptoSaid' is the law's where the arguments, and the package variables that the reading takes, are together of bulk at most 1048576: NARROWER than '..Said'. Prove '..Said' where nothing that the law and all that it calls make is longer than what came in: it says more and counts as full. Else prove '..UptoSaid'. A law counts once. -/
mutual
def uptoBulk {H : Type} : DataW H → Nat
  | .lit (.string bytes) => bytes.length + 1
  | .lit _ => 1
  | .nil => 1
  | .ptr d => uptoBulk d + 1
  | .slice elems spare => uptoBulkAll elems + uptoBulkAll spare + 1
  | .agg parts => uptoBulkAll parts + 1
  | .iface _ d => uptoBulk d + 1
  | .map entries => uptoBulkEntries entries + 1
  | .held _ => 1
def uptoBulkAll {H : Type} : List (DataW H) → Nat
  | [] => 0
  | d :: r => uptoBulk d + uptoBulkAll r
def uptoBulkEntries {H : Type} : List (Lit × DataW H) → Nat
  | [] => 0
  | x :: r => uptoBulkEntry x + uptoBulkEntries r
def uptoBulkEntry {H : Type} : Lit × DataW H → Nat
  | (.string bytes, d) => bytes.length + uptoBulk d + 1
  | (_, d) => uptoBulk d + 1
 end
def uptoSmall : (H : Type) → List (DataW H) → Bool := fun _ ds => decide (uptoBulkAll ds ≤ 1048576)
def OpenSpec.upto (s : _root_.Go.ChangeSpec) : _root_.Go.OpenSpec := { _root_.Go.OpenSpec.ofChange s with cond := some uptoSmall }

/-- 'cotillionlaw30.EffectWays', WHERE WHAT IT READS IS OF BULK AT MOST 1048576: true; the input reads as it did. -/
def effectWaysUptoRow : OpenClaim := { program := "ytfpfmibcnldepaa", sum := "51f9d590cd2e952107f6271a16f1b8e119832e2e21403cec8bae871de9ee8400", func := "cotillion/cotillionlaw30.EffectWays", spec := "effectWays", unfollowed := true, recurses := true, plainKeys := false, apart := false, narrowed := true }
def EffectWaysUptoSaid : Prop := effectWaysUptoRow.holds Try.pinned (OpenSpec.upto effectWaysSpec)

/-- 'cotillionlaw30.EffectErrs', WHERE WHAT IT READS IS OF BULK AT MOST 1048576: true; the input reads as it did. -/
def effectErrsUptoRow : OpenClaim := { program := "ytfpfmibcnldepaa", sum := "51f9d590cd2e952107f6271a16f1b8e119832e2e21403cec8bae871de9ee8400", func := "cotillion/cotillionlaw30.EffectErrs", spec := "effectErrs", unfollowed := true, recurses := true, plainKeys := false, apart := false, narrowed := true }
def EffectErrsUptoSaid : Prop := effectErrsUptoRow.holds Try.pinned (OpenSpec.upto effectErrsSpec)

/-- 'cotillionlaw30.EffectMany', WHERE WHAT IT READS IS OF BULK AT MOST 1048576: true; the input reads as it did. -/
def effectManyUptoRow : OpenClaim := { program := "ytfpfmibcnldepaa", sum := "51f9d590cd2e952107f6271a16f1b8e119832e2e21403cec8bae871de9ee8400", func := "cotillion/cotillionlaw30.EffectMany", spec := "effectMany", unfollowed := true, recurses := true, plainKeys := false, apart := false, narrowed := true }
def EffectManyUptoSaid : Prop := effectManyUptoRow.holds Try.pinned (OpenSpec.upto effectManySpec)

/-- 'cotillionlaw30.EffectOrder', WHERE WHAT IT READS IS OF BULK AT MOST 1048576: true; the input reads as it did. -/
def effectOrderUptoRow : OpenClaim := { program := "ytfpfmibcnldepaa", sum := "51f9d590cd2e952107f6271a16f1b8e119832e2e21403cec8bae871de9ee8400", func := "cotillion/cotillionlaw30.EffectOrder", spec := "effectOrder", unfollowed := true, recurses := true, plainKeys := false, apart := false, narrowed := true }
def EffectOrderUptoSaid : Prop := effectOrderUptoRow.holds Try.pinned (OpenSpec.upto effectOrderSpec)

end Rows
end Go.Proofs.Ytfpfmibcnldepaa
