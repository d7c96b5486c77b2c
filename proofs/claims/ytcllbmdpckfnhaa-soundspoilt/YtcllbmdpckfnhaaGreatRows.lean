/-
  No cell of these rows narrows 'for every input' (looked for: loops, veiled, ifaces, maps, wideKeys, modest, calm, conditions, laid).
  DERIVED. THE GIVEN ROWS OF THIS SEAT. 5 by the template 'for every input the law returns true; each argument reads behind the call as it read before'; 0 by the template 'total and deterministic' (their statements: YtcllbmdpckfnhaaGreatTotals.lean).
  GIVEN WITH THE SEED: the statements are not yours to turn. If you find one false, say at which input.
  Laid BY PROGRAM, IN A SANDBOX (cutbox-rows.mjs): the forced cells as the released guide's own fill.sh prints them over the translation 0b5a861c5d800865… (all of the seat's roots in one cut). By AI agents, Wed Nov 11 2026. No macro, syntax, notation, axiom, sorry.
-/
import Derived.Test.YtcllbmdpckfnhaaGreatChecked
import GoSem.Claim
import GoSem.ClaimJoined
import GoSem.ClaimMapViews
import Derived.JoinedTies
import Derived.KernelRfl
namespace Go.Proofs.YtcllbmdpckfnhaaGreat
/- THE CELL 'sum', in the pinned program and in every row, IS THE sha256 OF THE DUMP (.gsa) THAT YtcllbmdpckfnhaaGreatProg.lean LOADS. Nothing in Lean hashes anything: it is a label: what it is worth is what the hold of that sum in a sandbox is worth. -/
noncomputable def Tryz.pinned : Pinned := { name := "ytcllbmdpckfnhaagreat", sum := "0b5a861c5d800865d2eeb6f0ce9a4adf23399760155e9b761a3bf8ad09a7764c", checked := Tryz.checked }
namespace Rows
def none {H : Type} : Left H := { results := [], args := [] }

/-- 'cotillionlaw12.SoundTells': WHATEVER THE INPUT: true; the input reads as it did. -/
def soundTellsSpec : ChangeSpec := { name := "soundTells", fn := fun _ => fun
  | [d] => { results := [.lit (.bool true)], args := [d] }
  | _ => none }
def soundTellsRow : OpenClaim := { program := "ytcllbmdpckfnhaagreat", sum := "0b5a861c5d800865d2eeb6f0ce9a4adf23399760155e9b761a3bf8ad09a7764c", func := "cotillion/cotillionlaw12.SoundTells", spec := "soundTells", unfollowed := true, recurses := true, apart := false }
def SoundTellsSaid : Prop := soundTellsRow.holds Tryz.pinned (OpenSpec.ofChange soundTellsSpec)

/-- ITS FALSE NEIGHBOUR: 'it returns false'. Refute it at one input. -/
def soundTellsWrong : ChangeSpec := { name := "soundTells", fn := fun _ => fun
  | [d] => { results := [.lit (.bool false)], args := [d] }
  | _ => none }
def SoundTellsWrongFalsely : Prop := soundTellsRow.holds Tryz.pinned (OpenSpec.ofChange soundTellsWrong)

/-- 'cotillionlaw12.SoundSpoilt': WHATEVER THE INPUT: true; the input reads as it did. -/
def soundSpoiltSpec : ChangeSpec := { name := "soundSpoilt", fn := fun _ => fun
  | [d1, d2, d3] => { results := [.lit (.bool true)], args := [d1, d2, d3] }
  | _ => none }
def soundSpoiltRow : OpenClaim := { program := "ytcllbmdpckfnhaagreat", sum := "0b5a861c5d800865d2eeb6f0ce9a4adf23399760155e9b761a3bf8ad09a7764c", func := "cotillion/cotillionlaw12.SoundSpoilt", spec := "soundSpoilt", unfollowed := true, recurses := true, apart := false }
def SoundSpoiltSaid : Prop := soundSpoiltRow.holds Tryz.pinned (OpenSpec.ofChange soundSpoiltSpec)

/-- ITS FALSE NEIGHBOUR: 'it returns false'. Refute it at one input. -/
def soundSpoiltWrong : ChangeSpec := { name := "soundSpoilt", fn := fun _ => fun
  | [d1, d2, d3] => { results := [.lit (.bool false)], args := [d1, d2, d3] }
  | _ => none }
def SoundSpoiltWrongFalsely : Prop := soundSpoiltRow.holds Tryz.pinned (OpenSpec.ofChange soundSpoiltWrong)

/-- 'cotillionlaw12.SoundTurned': WHATEVER THE INPUT: true; the input reads as it did. -/
def soundTurnedSpec : ChangeSpec := { name := "soundTurned", fn := fun _ => fun
  | [d1, d2, d3] => { results := [.lit (.bool true)], args := [d1, d2, d3] }
  | _ => none }
def soundTurnedRow : OpenClaim := { program := "ytcllbmdpckfnhaagreat", sum := "0b5a861c5d800865d2eeb6f0ce9a4adf23399760155e9b761a3bf8ad09a7764c", func := "cotillion/cotillionlaw12.SoundTurned", spec := "soundTurned", unfollowed := true, recurses := true, apart := false }
def SoundTurnedSaid : Prop := soundTurnedRow.holds Tryz.pinned (OpenSpec.ofChange soundTurnedSpec)

/-- ITS FALSE NEIGHBOUR: 'it returns false'. Refute it at one input. -/
def soundTurnedWrong : ChangeSpec := { name := "soundTurned", fn := fun _ => fun
  | [d1, d2, d3] => { results := [.lit (.bool false)], args := [d1, d2, d3] }
  | _ => none }
def SoundTurnedWrongFalsely : Prop := soundTurnedRow.holds Tryz.pinned (OpenSpec.ofChange soundTurnedWrong)

/-- 'cotillionlaw12.SoundCerts': WHATEVER THE INPUT: true; the input reads as it did. -/
def soundCertsSpec : ChangeSpec := { name := "soundCerts", fn := fun _ => fun
  | [d1, d2, d3] => { results := [.lit (.bool true)], args := [d1, d2, d3] }
  | _ => none }
def soundCertsRow : OpenClaim := { program := "ytcllbmdpckfnhaagreat", sum := "0b5a861c5d800865d2eeb6f0ce9a4adf23399760155e9b761a3bf8ad09a7764c", func := "cotillion/cotillionlaw12.SoundCerts", spec := "soundCerts", unfollowed := true, recurses := true, apart := false }
def SoundCertsSaid : Prop := soundCertsRow.holds Tryz.pinned (OpenSpec.ofChange soundCertsSpec)

/-- ITS FALSE NEIGHBOUR: 'it returns false'. Refute it at one input. -/
def soundCertsWrong : ChangeSpec := { name := "soundCerts", fn := fun _ => fun
  | [d1, d2, d3] => { results := [.lit (.bool false)], args := [d1, d2, d3] }
  | _ => none }
def SoundCertsWrongFalsely : Prop := soundCertsRow.holds Tryz.pinned (OpenSpec.ofChange soundCertsWrong)

/-- 'cotillionlaw12.SoundBack': WHATEVER THE INPUT: true; the input reads as it did. -/
def soundBackSpec : ChangeSpec := { name := "soundBack", fn := fun _ => fun
  | [d1, d2] => { results := [.lit (.bool true)], args := [d1, d2] }
  | _ => none }
def soundBackRow : OpenClaim := { program := "ytcllbmdpckfnhaagreat", sum := "0b5a861c5d800865d2eeb6f0ce9a4adf23399760155e9b761a3bf8ad09a7764c", func := "cotillion/cotillionlaw12.SoundBack", spec := "soundBack", unfollowed := true, recurses := true, apart := false }
def SoundBackSaid : Prop := soundBackRow.holds Tryz.pinned (OpenSpec.ofChange soundBackSpec)

/-- ITS FALSE NEIGHBOUR: 'it returns false'. Refute it at one input. -/
def soundBackWrong : ChangeSpec := { name := "soundBack", fn := fun _ => fun
  | [d1, d2] => { results := [.lit (.bool false)], args := [d1, d2] }
  | _ => none }
def SoundBackWrongFalsely : Prop := soundBackRow.holds Tryz.pinned (OpenSpec.ofChange soundBackWrong)

/- THE SECOND FORM. 'bulk': how many values and letters a reading holds, each counted each time it is reached (what is shared counts as often as it is met; a slice's spare places count too). A statement '..UptoSaid' is the law's where the arguments, and the package variables that the reading takes, are together of bulk at most 1048576: NARROWER than '..Said'. Prove '..Said' where nothing that the law and all that it calls make is longer than what came in: it says more and counts as full. Else prove '..UptoSaid'. A law counts once. -/
mutual
def uptoBulk {H : Type} : DataW H → Nat
  | .lit (.string bytes) => bytes.length + 1
  | .lit _ => 1
  | .nil => 1
  | .ptr d => uptoBulk d + 1
  | .slice elems spare => uptoBulkAll elems + uptoBulkAll spare + 1
  | .agg parts => uptoBulkAll parts + 1
  | .iface _ d => uptoBulk d + 1
  | .map entries => uptoBulkEntries entries + 1
  | .held _ => 1
def uptoBulkAll {H : Type} : List (DataW H) → Nat
  | [] => 0
  | d :: r => uptoBulk d + uptoBulkAll r
def uptoBulkEntries {H : Type} : List (Lit × DataW H) → Nat
  | [] => 0
  | x :: r => uptoBulkEntry x + uptoBulkEntries r
def uptoBulkEntry {H : Type} : Lit × DataW H → Nat
  | (.string bytes, d) => bytes.length + uptoBulk d + 1
  | (_, d) => uptoBulk d + 1
 end
def uptoSmall : (H : Type) → List (DataW H) → Bool := fun _ ds => decide (uptoBulkAll ds ≤ 1048576)
def OpenSpec.upto (s : _root_.Go.ChangeSpec) : _root_.Go.OpenSpec := { _root_.Go.OpenSpec.ofChange s with cond := some uptoSmall }

/-- 'cotillionlaw12.SoundTells', WHERE WHAT IT READS IS OF BULK AT MOST 1048576: true; the input reads as it did. -/
def soundTellsUptoRow : OpenClaim := { program := "ytcllbmdpckfnhaagreat", sum := "0b5a861c5d800865d2eeb6f0ce9a4adf23399760155e9b761a3bf8ad09a7764c", func := "cotillion/cotillionlaw12.SoundTells", spec := "soundTells", unfollowed := true, recurses := true, apart := false, narrowed := true }
def SoundTellsUptoSaid : Prop := soundTellsUptoRow.holds Tryz.pinned (OpenSpec.upto soundTellsSpec)

/-- 'cotillionlaw12.SoundSpoilt', WHERE WHAT IT READS IS OF BULK AT MOST 1048576: true; the input reads as it did. -/
def soundSpoiltUptoRow : OpenClaim := { program := "ytcllbmdpckfnhaagreat", sum := "0b5a861c5d800865d2eeb6f0ce9a4adf23399760155e9b761a3bf8ad09a7764c", func := "cotillion/cotillionlaw12.SoundSpoilt", spec := "soundSpoilt", unfollowed := true, recurses := true, apart := false, narrowed := true }
def SoundSpoiltUptoSaid : Prop := soundSpoiltUptoRow.holds Tryz.pinned (OpenSpec.upto soundSpoiltSpec)

/-- 'cotillionlaw12.SoundTurned', WHERE WHAT IT READS IS OF BULK AT MOST 1048576: true; the input reads as it did. -/
def soundTurnedUptoRow : OpenClaim := { program := "ytcllbmdpckfnhaagreat", sum := "0b5a861c5d800865d2eeb6f0ce9a4adf23399760155e9b761a3bf8ad09a7764c", func := "cotillion/cotillionlaw12.SoundTurned", spec := "soundTurned", unfollowed := true, recurses := true, apart := false, narrowed := true }
def SoundTurnedUptoSaid : Prop := soundTurnedUptoRow.holds Tryz.pinned (OpenSpec.upto soundTurnedSpec)

/-- 'cotillionlaw12.SoundCerts', WHERE WHAT IT READS IS OF BULK AT MOST 1048576: true; the input reads as it did. -/
def soundCertsUptoRow : OpenClaim := { program := "ytcllbmdpckfnhaagreat", sum := "0b5a861c5d800865d2eeb6f0ce9a4adf23399760155e9b761a3bf8ad09a7764c", func := "cotillion/cotillionlaw12.SoundCerts", spec := "soundCerts", unfollowed := true, recurses := true, apart := false, narrowed := true }
def SoundCertsUptoSaid : Prop := soundCertsUptoRow.holds Tryz.pinned (OpenSpec.upto soundCertsSpec)

/-- 'cotillionlaw12.SoundBack', WHERE WHAT IT READS IS OF BULK AT MOST 1048576: true; the input reads as it did. -/
def soundBackUptoRow : OpenClaim := { program := "ytcllbmdpckfnhaagreat", sum := "0b5a861c5d800865d2eeb6f0ce9a4adf23399760155e9b761a3bf8ad09a7764c", func := "cotillion/cotillionlaw12.SoundBack", spec := "soundBack", unfollowed := true, recurses := true, apart := false, narrowed := true }
def SoundBackUptoSaid : Prop := soundBackUptoRow.holds Tryz.pinned (OpenSpec.upto soundBackSpec)

end Rows
end Go.Proofs.YtcllbmdpckfnhaaGreat
