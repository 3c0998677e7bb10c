/-
  No cell of these rows narrows 'for every input' (looked for: loops, veiled, ifaces, maps, wideKeys, modest, calm, conditions, laid).
  DERIVED. THE GIVEN ROWS OF THIS SEAT. 4 by the template 'for every input the law returns true; each argument reads behind the call as it read before'; 0 by the template 'total and deterministic' (their statements: YtinpdbimbnhpoaaTotals.lean).
  GIVEN WITH THE SEED: the statements are not yours to turn. If you find one false, say at which input.
  Laid BY PROGRAM, IN A SANDBOX (cutbox-rows.mjs): the forced cells as the released guide's own fill.sh prints them over the translation 86c40d4c9e8e8666… (all of the seat's roots in one cut). By AI agents, Wed Nov 11 2026. No macro, syntax, notation, axiom, sorry.
-/
import Derived.Test.YtinpdbimbnhpoaaChecked
import GoSem.Claim
import GoSem.ClaimJoined
import GoSem.ClaimMapViews
import Derived.JoinedTies
import Derived.KernelRfl
namespace Go.Proofs.Ytinpdbimbnhpoaa
/- THE CELL 'sum', in the pinned program and in every row, IS THE sha256 OF THE DUMP (.gsa) THAT YtinpdbimbnhpoaaProg.lean LOADS. Nothing in Lean hashes anything: it is a label: what it is worth is what the hold of that sum in a sandbox is worth. -/
noncomputable def Try.pinned : Pinned := { name := "ytinpdbimbnhpoaa", sum := "86c40d4c9e8e866695b69a2e7c15e2c4e68d1d7294b77d0b4e2874e06534749c", checked := Try.checked }
namespace Rows
def none {H : Type} : Left H := { results := [], args := [] }

/-- 'trivetlaw17.PmiEnds': WHATEVER THE INPUT: true; the input reads as it did. -/
def pmiEndsSpec : ChangeSpec := { name := "pmiEnds", fn := fun _ => fun
  | [d1, d2] => { results := [.lit (.bool true)], args := [d1, d2] }
  | _ => none }
def pmiEndsRow : OpenClaim := { program := "ytinpdbimbnhpoaa", sum := "86c40d4c9e8e866695b69a2e7c15e2c4e68d1d7294b77d0b4e2874e06534749c", func := "trivet/trivetlaw17.PmiEnds", spec := "pmiEnds", named := ["math/bits.divideError", "math/bits.overflowError"], apart := false }
def PmiEndsSaid : Prop := pmiEndsRow.holds Try.pinned (OpenSpec.ofChange pmiEndsSpec)

/-- ITS FALSE NEIGHBOUR: 'it returns false'. Refute it at one input. -/
def pmiEndsWrong : ChangeSpec := { name := "pmiEnds", fn := fun _ => fun
  | [d1, d2] => { results := [.lit (.bool false)], args := [d1, d2] }
  | _ => none }
def PmiEndsWrongFalsely : Prop := pmiEndsRow.holds Try.pinned (OpenSpec.ofChange pmiEndsWrong)

/-- 'trivetlaw17.PmiValue': WHATEVER THE INPUT: true; the input reads as it did. -/
def pmiValueSpec : ChangeSpec := { name := "pmiValue", fn := fun _ => fun
  | [d1, d2, d3] => { results := [.lit (.bool true)], args := [d1, d2, d3] }
  | _ => none }
def pmiValueRow : OpenClaim := { program := "ytinpdbimbnhpoaa", sum := "86c40d4c9e8e866695b69a2e7c15e2c4e68d1d7294b77d0b4e2874e06534749c", func := "trivet/trivetlaw17.PmiValue", spec := "pmiValue", named := ["math/bits.divideError", "math/bits.overflowError"], apart := false }
def PmiValueSaid : Prop := pmiValueRow.holds Try.pinned (OpenSpec.ofChange pmiValueSpec)

/-- ITS FALSE NEIGHBOUR: 'it returns false'. Refute it at one input. -/
def pmiValueWrong : ChangeSpec := { name := "pmiValue", fn := fun _ => fun
  | [d1, d2, d3] => { results := [.lit (.bool false)], args := [d1, d2, d3] }
  | _ => none }
def PmiValueWrongFalsely : Prop := pmiValueRow.holds Try.pinned (OpenSpec.ofChange pmiValueWrong)

/-- 'trivetlaw17.PmiOff': WHATEVER THE INPUT: true; the input reads as it did. -/
def pmiOffSpec : ChangeSpec := { name := "pmiOff", fn := fun _ => fun
  | [d1, d2, d3, d4] => { results := [.lit (.bool true)], args := [d1, d2, d3, d4] }
  | _ => none }
def pmiOffRow : OpenClaim := { program := "ytinpdbimbnhpoaa", sum := "86c40d4c9e8e866695b69a2e7c15e2c4e68d1d7294b77d0b4e2874e06534749c", func := "trivet/trivetlaw17.PmiOff", spec := "pmiOff", named := ["math/bits.divideError", "math/bits.overflowError"], apart := false }
def PmiOffSaid : Prop := pmiOffRow.holds Try.pinned (OpenSpec.ofChange pmiOffSpec)

/-- ITS FALSE NEIGHBOUR: 'it returns false'. Refute it at one input. -/
def pmiOffWrong : ChangeSpec := { name := "pmiOff", fn := fun _ => fun
  | [d1, d2, d3, d4] => { results := [.lit (.bool false)], args := [d1, d2, d3, d4] }
  | _ => none }
def PmiOffWrongFalsely : Prop := pmiOffRow.holds Try.pinned (OpenSpec.ofChange pmiOffWrong)

/-- 'trivetlaw17.PmiOrder': WHATEVER THE INPUT: true; the input reads as it did. -/
def pmiOrderSpec : ChangeSpec := { name := "pmiOrder", fn := fun _ => fun
  | [d1, d2, d3, d4] => { results := [.lit (.bool true)], args := [d1, d2, d3, d4] }
  | _ => none }
def pmiOrderRow : OpenClaim := { program := "ytinpdbimbnhpoaa", sum := "86c40d4c9e8e866695b69a2e7c15e2c4e68d1d7294b77d0b4e2874e06534749c", func := "trivet/trivetlaw17.PmiOrder", spec := "pmiOrder", named := ["math/bits.divideError", "math/bits.overflowError"], apart := false }
def PmiOrderSaid : Prop := pmiOrderRow.holds Try.pinned (OpenSpec.ofChange pmiOrderSpec)

/-- ITS FALSE NEIGHBOUR: 'it returns false'. Refute it at one input. -/
def pmiOrderWrong : ChangeSpec := { name := "pmiOrder", fn := fun _ => fun
  | [d1, d2, d3, d4] => { results := [.lit (.bool false)], args := [d1, d2, d3, d4] }
  | _ => none }
def PmiOrderWrongFalsely : Prop := pmiOrderRow.holds Try.pinned (OpenSpec.ofChange pmiOrderWrong)

/- THE SECOND FORM. 'bulk': how many values and letters a reading holds, each counted each time it is reached (what is shared counts as often as it is met; a slice's spare places count too). A statement '..UptoSaid' is the law's where the arguments, and the package variables that the reading takes, are together of bulk at most 1048576: NARROWER than '..Said'. Prove '..Said' where nothing that the law and all that it calls make is longer than what came in: it says more and counts as full. Else prove '..UptoSaid'. A law counts once. -/
mutual
def uptoBulk {H : Type} : DataW H → Nat
  | .lit (.string bytes) => bytes.length + 1
  | .lit _ => 1
  | .nil => 1
  | .ptr d => uptoBulk d + 1
  | .slice elems spare => uptoBulkAll elems + uptoBulkAll spare + 1
  | .agg parts => uptoBulkAll parts + 1
  | .iface _ d => uptoBulk d + 1
  | .map entries => uptoBulkEntries entries + 1
  | .held _ => 1
def uptoBulkAll {H : Type} : List (DataW H) → Nat
  | [] => 0
  | d :: r => uptoBulk d + uptoBulkAll r
def uptoBulkEntries {H : Type} : List (Lit × DataW H) → Nat
  | [] => 0
  | x :: r => uptoBulkEntry x + uptoBulkEntries r
def uptoBulkEntry {H : Type} : Lit × DataW H → Nat
  | (.string bytes, d) => bytes.length + uptoBulk d + 1
  | (_, d) => uptoBulk d + 1
 end
def uptoSmall : (H : Type) → List (DataW H) → Bool := fun _ ds => decide (uptoBulkAll ds ≤ 1048576)
def OpenSpec.upto (s : _root_.Go.ChangeSpec) : _root_.Go.OpenSpec := { _root_.Go.OpenSpec.ofChange s with cond := some uptoSmall }

/-- 'trivetlaw17.PmiEnds', WHERE WHAT IT READS IS OF BULK AT MOST 1048576: true; the input reads as it did. -/
def pmiEndsUptoRow : OpenClaim := { program := "ytinpdbimbnhpoaa", sum := "86c40d4c9e8e866695b69a2e7c15e2c4e68d1d7294b77d0b4e2874e06534749c", func := "trivet/trivetlaw17.PmiEnds", spec := "pmiEnds", named := ["math/bits.divideError", "math/bits.overflowError"], apart := false, narrowed := true }
def PmiEndsUptoSaid : Prop := pmiEndsUptoRow.holds Try.pinned (OpenSpec.upto pmiEndsSpec)

/-- 'trivetlaw17.PmiValue', WHERE WHAT IT READS IS OF BULK AT MOST 1048576: true; the input reads as it did. -/
def pmiValueUptoRow : OpenClaim := { program := "ytinpdbimbnhpoaa", sum := "86c40d4c9e8e866695b69a2e7c15e2c4e68d1d7294b77d0b4e2874e06534749c", func := "trivet/trivetlaw17.PmiValue", spec := "pmiValue", named := ["math/bits.divideError", "math/bits.overflowError"], apart := false, narrowed := true }
def PmiValueUptoSaid : Prop := pmiValueUptoRow.holds Try.pinned (OpenSpec.upto pmiValueSpec)

/-- 'trivetlaw17.PmiOff', WHERE WHAT IT READS IS OF BULK AT MOST 1048576: true; the input reads as it did. -/
def pmiOffUptoRow : OpenClaim := { program := "ytinpdbimbnhpoaa", sum := "86c40d4c9e8e866695b69a2e7c15e2c4e68d1d7294b77d0b4e2874e06534749c", func := "trivet/trivetlaw17.PmiOff", spec := "pmiOff", named := ["math/bits.divideError", "math/bits.overflowError"], apart := false, narrowed := true }
def PmiOffUptoSaid : Prop := pmiOffUptoRow.holds Try.pinned (OpenSpec.upto pmiOffSpec)

/-- 'trivetlaw17.PmiOrder', WHERE WHAT IT READS IS OF BULK AT MOST 1048576: true; the input reads as it did. -/
def pmiOrderUptoRow : OpenClaim := { program := "ytinpdbimbnhpoaa", sum := "86c40d4c9e8e866695b69a2e7c15e2c4e68d1d7294b77d0b4e2874e06534749c", func := "trivet/trivetlaw17.PmiOrder", spec := "pmiOrder", named := ["math/bits.divideError", "math/bits.overflowError"], apart := false, narrowed := true }
def PmiOrderUptoSaid : Prop := pmiOrderUptoRow.holds Try.pinned (OpenSpec.upto pmiOrderSpec)

end Rows
end Go.Proofs.Ytinpdbimbnhpoaa
