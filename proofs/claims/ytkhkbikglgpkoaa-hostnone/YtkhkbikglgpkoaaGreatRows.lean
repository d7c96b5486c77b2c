/-
  No cell of these rows narrows 'for every input' (looked for: loops, veiled, ifaces, maps, wideKeys, modest, calm, conditions, laid).
  DERIVED. THE GIVEN ROWS OF THIS SEAT. 3 by the template 'for every input the law returns true; each argument reads behind the call as it read before'; 0 by the template 'total and deterministic' (their statements: YtkhkbikglgpkoaaGreatTotals.lean).
  GIVEN WITH THE SEED: the statements are not yours to turn. If you find one false, say at which input.
  Laid BY PROGRAM, IN A SANDBOX (cutbox-rows.mjs): the forced cells as the released guide's own fill.sh prints them over the translation d6ed98f94fe4201c… (all of the seat's roots in one cut). By AI agents, Wed Nov 11 2026. No macro, syntax, notation, axiom, sorry.
-/
import Derived.Test.YtkhkbikglgpkoaaGreatChecked
import GoSem.Claim
import GoSem.ClaimJoined
import GoSem.ClaimMapViews
import Derived.JoinedTies
import Derived.KernelRfl
namespace Go.Proofs.YtkhkbikglgpkoaaGreat
/- THE CELL 'sum', in the pinned program and in every row, IS THE sha256 OF THE DUMP (.gsa) THAT YtkhkbikglgpkoaaGreatProg.lean LOADS. Nothing in Lean hashes anything: it is a label: what it is worth is what the hold of that sum in a sandbox is worth. -/
noncomputable def Tryz.pinned : Pinned := { name := "ytkhkbikglgpkoaagreat", sum := "d6ed98f94fe4201caa609c4685cb15255ae7489fbce7f35b3f22a258b04e2826", checked := Tryz.checked }
namespace Rows
def none {H : Type} : Left H := { results := [], args := [] }

/-- 'cotillionlaw29.BoundOver': WHATEVER THE INPUT: true; the input reads as it did. -/
def boundOverSpec : ChangeSpec := { name := "boundOver", fn := fun _ => fun
  | [d1, d2] => { results := [.lit (.bool true)], args := [d1, d2] }
  | _ => none }
def boundOverRow : OpenClaim := { program := "ytkhkbikglgpkoaagreat", sum := "d6ed98f94fe4201caa609c4685cb15255ae7489fbce7f35b3f22a258b04e2826", func := "cotillion/cotillionlaw29.BoundOver", spec := "boundOver", unfollowed := true, recurses := true, plainKeys := false, apart := false }
def BoundOverSaid : Prop := boundOverRow.holds Tryz.pinned (OpenSpec.ofChange boundOverSpec)

/-- ITS FALSE NEIGHBOUR: 'it returns false'. Refute it at one input. -/
def boundOverWrong : ChangeSpec := { name := "boundOver", fn := fun _ => fun
  | [d1, d2] => { results := [.lit (.bool false)], args := [d1, d2] }
  | _ => none }
def BoundOverWrongFalsely : Prop := boundOverRow.holds Tryz.pinned (OpenSpec.ofChange boundOverWrong)

/-- 'cotillionlaw31.AbstGuards': WHATEVER THE INPUT: true; the input reads as it did. -/
def abstGuardsSpec : ChangeSpec := { name := "abstGuards", fn := fun _ => fun
  | [d1, d2] => { results := [.lit (.bool true)], args := [d1, d2] }
  | _ => none }
def abstGuardsRow : OpenClaim := { program := "ytkhkbikglgpkoaagreat", sum := "d6ed98f94fe4201caa609c4685cb15255ae7489fbce7f35b3f22a258b04e2826", func := "cotillion/cotillionlaw31.AbstGuards", spec := "abstGuards", inPlace := ["slices.overlaps[cotillion/abst.Trail]"], unfollowed := true, recurses := true, plainKeys := false, apart := false }
def AbstGuardsSaid : Prop := abstGuardsRow.holds Tryz.pinned (OpenSpec.ofChange abstGuardsSpec)

/-- ITS FALSE NEIGHBOUR: 'it returns false'. Refute it at one input. -/
def abstGuardsWrong : ChangeSpec := { name := "abstGuards", fn := fun _ => fun
  | [d1, d2] => { results := [.lit (.bool false)], args := [d1, d2] }
  | _ => none }
def AbstGuardsWrongFalsely : Prop := abstGuardsRow.holds Tryz.pinned (OpenSpec.ofChange abstGuardsWrong)

/-- 'cotillionlaw27.HostNone': WHATEVER THE INPUT: true; the input reads as it did. -/
def hostNoneSpec : ChangeSpec := { name := "hostNone", fn := fun _ => fun
  | [d1, d2, d3] => { results := [.lit (.bool true)], args := [d1, d2, d3] }
  | _ => none }
def hostNoneRow : OpenClaim := { program := "ytkhkbikglgpkoaagreat", sum := "d6ed98f94fe4201caa609c4685cb15255ae7489fbce7f35b3f22a258b04e2826", func := "cotillion/cotillionlaw27.HostNone", spec := "hostNone", inPlace := ["slices.overlaps[int]"], unfollowed := true, recurses := true, plainKeys := false, apart := false }
def HostNoneSaid : Prop := hostNoneRow.holds Tryz.pinned (OpenSpec.ofChange hostNoneSpec)

/-- ITS FALSE NEIGHBOUR: 'it returns false'. Refute it at one input. -/
def hostNoneWrong : ChangeSpec := { name := "hostNone", fn := fun _ => fun
  | [d1, d2, d3] => { results := [.lit (.bool false)], args := [d1, d2, d3] }
  | _ => none }
def HostNoneWrongFalsely : Prop := hostNoneRow.holds Tryz.pinned (OpenSpec.ofChange hostNoneWrong)

/- THE SECOND FORM. 'bulk': how many values and letters a reading holds, each counted each time it is reached (what is shared counts as often as it is met; a slice's spare places count too). A statement '..UptoSaid' is the law's where the arguments, and the package variables that the reading takes, are together of bulk at most 1048576: NARROWER than '..Said'. Prove '..Said' where nothing that the law and all that it calls make is longer than what came in: it says more and counts as full. Else prove '..UptoSaid'. A law counts once. -/
mutual
def uptoBulk {H : Type} : DataW H → Nat
  | .lit (.string bytes) => bytes.length + 1
  | .lit _ => 1
  | .nil => 1
  | .ptr d => uptoBulk d + 1
  | .slice elems spare => uptoBulkAll elems + uptoBulkAll spare + 1
  | .agg parts => uptoBulkAll parts + 1
  | .iface _ d => uptoBulk d + 1
  | .map entries => uptoBulkEntries entries + 1
  | .held _ => 1
def uptoBulkAll {H : Type} : List (DataW H) → Nat
  | [] => 0
  | d :: r => uptoBulk d + uptoBulkAll r
def uptoBulkEntries {H : Type} : List (Lit × DataW H) → Nat
  | [] => 0
  | x :: r => uptoBulkEntry x + uptoBulkEntries r
def uptoBulkEntry {H : Type} : Lit × DataW H → Nat
  | (.string bytes, d) => bytes.length + uptoBulk d + 1
  | (_, d) => uptoBulk d + 1
 end
def uptoSmall : (H : Type) → List (DataW H) → Bool := fun _ ds => decide (uptoBulkAll ds ≤ 1048576)
def OpenSpec.upto (s : _root_.Go.ChangeSpec) : _root_.Go.OpenSpec := { _root_.Go.OpenSpec.ofChange s with cond := some uptoSmall }

/-- 'cotillionlaw29.BoundOver', WHERE WHAT IT READS IS OF BULK AT MOST 1048576: true; the input reads as it did. -/
def boundOverUptoRow : OpenClaim := { program := "ytkhkbikglgpkoaagreat", sum := "d6ed98f94fe4201caa609c4685cb15255ae7489fbce7f35b3f22a258b04e2826", func := "cotillion/cotillionlaw29.BoundOver", spec := "boundOver", unfollowed := true, recurses := true, plainKeys := false, apart := false, narrowed := true }
def BoundOverUptoSaid : Prop := boundOverUptoRow.holds Tryz.pinned (OpenSpec.upto boundOverSpec)

/-- 'cotillionlaw31.AbstGuards', WHERE WHAT IT READS IS OF BULK AT MOST 1048576: true; the input reads as it did. -/
def abstGuardsUptoRow : OpenClaim := { program := "ytkhkbikglgpkoaagreat", sum := "d6ed98f94fe4201caa609c4685cb15255ae7489fbce7f35b3f22a258b04e2826", func := "cotillion/cotillionlaw31.AbstGuards", spec := "abstGuards", inPlace := ["slices.overlaps[cotillion/abst.Trail]"], unfollowed := true, recurses := true, plainKeys := false, apart := false, narrowed := true }
def AbstGuardsUptoSaid : Prop := abstGuardsUptoRow.holds Tryz.pinned (OpenSpec.upto abstGuardsSpec)

/-- 'cotillionlaw27.HostNone', WHERE WHAT IT READS IS OF BULK AT MOST 1048576: true; the input reads as it did. -/
def hostNoneUptoRow : OpenClaim := { program := "ytkhkbikglgpkoaagreat", sum := "d6ed98f94fe4201caa609c4685cb15255ae7489fbce7f35b3f22a258b04e2826", func := "cotillion/cotillionlaw27.HostNone", spec := "hostNone", inPlace := ["slices.overlaps[int]"], unfollowed := true, recurses := true, plainKeys := false, apart := false, narrowed := true }
def HostNoneUptoSaid : Prop := hostNoneUptoRow.holds Tryz.pinned (OpenSpec.upto hostNoneSpec)

end Rows
end Go.Proofs.YtkhkbikglgpkoaaGreat
