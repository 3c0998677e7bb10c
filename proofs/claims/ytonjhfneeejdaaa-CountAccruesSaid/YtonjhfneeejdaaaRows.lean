/-
  No cell of these rows narrows 'for every input' (looked for: loops, veiled, ifaces, maps, wideKeys, modest, calm, conditions, laid).
  DERIVED. THE GIVEN ROWS OF THIS SEAT. 4 by the template 'for every input the law returns true; each argument reads behind the call as it read before'; 0 by the template 'total and deterministic' (their statements: YtonjhfneeejdaaaTotals.lean).
  GIVEN WITH THE SEED: the statements are not yours to turn. If you find one false, say at which input.
  Laid BY PROGRAM, IN A SANDBOX (cutbox-rows.mjs): the forced cells as the released guide's own fill.sh prints them over the translation 0cd331291402b39f… (all of the seat's roots in one cut). By AI agents, Wed Nov 11 2026. No macro, syntax, notation, axiom, sorry.
-/
import Derived.Test.YtonjhfneeejdaaaChecked
import GoSem.Claim
import GoSem.ClaimJoined
import GoSem.ClaimMapViews
import Derived.JoinedTies
import Derived.KernelRfl
namespace Go.Proofs.Ytonjhfneeejdaaa
/- THE CELL 'sum', in the pinned program and in every row, IS THE sha256 OF THE DUMP (.gsa) THAT YtonjhfneeejdaaaProg.lean LOADS. Nothing in Lean hashes anything: it is a label: what it is worth is what the hold of that sum in a sandbox is worth. -/
noncomputable def Try.pinned : Pinned := { name := "ytonjhfneeejdaaa", sum := "0cd331291402b39fbae3573055357bb23e28f87d522507de18ac5f04e3a1ee3f", checked := Try.checked }
namespace Rows
def none {H : Type} : Left H := { results := [], args := [] }

/-- 'trivetlaw05.CountBetween': WHATEVER THE INPUT: true; the input reads as it did. -/
def countBetweenSpec : ChangeSpec := { name := "countBetween", fn := fun _ => fun
  | [d1, d2] => { results := [.lit (.bool true)], args := [d1, d2] }
  | _ => none }
def countBetweenRow : OpenClaim := { program := "ytonjhfneeejdaaa", sum := "0cd331291402b39fbae3573055357bb23e28f87d522507de18ac5f04e3a1ee3f", func := "trivet/trivetlaw05.CountBetween", spec := "countBetween", named := ["math/bits.divideError", "math/bits.overflowError"], apart := false }
def CountBetweenSaid : Prop := countBetweenRow.holds Try.pinned (OpenSpec.ofChange countBetweenSpec)

/-- ITS FALSE NEIGHBOUR: 'it returns false'. Refute it at one input. -/
def countBetweenWrong : ChangeSpec := { name := "countBetween", fn := fun _ => fun
  | [d1, d2] => { results := [.lit (.bool false)], args := [d1, d2] }
  | _ => none }
def CountBetweenWrongFalsely : Prop := countBetweenRow.holds Try.pinned (OpenSpec.ofChange countBetweenWrong)

/-- 'trivetlaw05.CountAccrues': WHATEVER THE INPUT: true; the input reads as it did. -/
def countAccruesSpec : ChangeSpec := { name := "countAccrues", fn := fun _ => fun
  | [d1, d2, d3, d4] => { results := [.lit (.bool true)], args := [d1, d2, d3, d4] }
  | _ => none }
def countAccruesRow : OpenClaim := { program := "ytonjhfneeejdaaa", sum := "0cd331291402b39fbae3573055357bb23e28f87d522507de18ac5f04e3a1ee3f", func := "trivet/trivetlaw05.CountAccrues", spec := "countAccrues", named := ["math/bits.divideError", "math/bits.overflowError"], apart := false }
def CountAccruesSaid : Prop := countAccruesRow.holds Try.pinned (OpenSpec.ofChange countAccruesSpec)

/-- ITS FALSE NEIGHBOUR: 'it returns false'. Refute it at one input. -/
def countAccruesWrong : ChangeSpec := { name := "countAccrues", fn := fun _ => fun
  | [d1, d2, d3, d4] => { results := [.lit (.bool false)], args := [d1, d2, d3, d4] }
  | _ => none }
def CountAccruesWrongFalsely : Prop := countAccruesRow.holds Try.pinned (OpenSpec.ofChange countAccruesWrong)

/-- 'trivetlaw05.CountMonth': WHATEVER THE INPUT: true; the input reads as it did. -/
def countMonthSpec : ChangeSpec := { name := "countMonth", fn := fun _ => fun
  | [d1, d2, d3, d4, d5] => { results := [.lit (.bool true)], args := [d1, d2, d3, d4, d5] }
  | _ => none }
def countMonthRow : OpenClaim := { program := "ytonjhfneeejdaaa", sum := "0cd331291402b39fbae3573055357bb23e28f87d522507de18ac5f04e3a1ee3f", func := "trivet/trivetlaw05.CountMonth", spec := "countMonth", named := ["math/bits.divideError", "math/bits.overflowError"], apart := false }
def CountMonthSaid : Prop := countMonthRow.holds Try.pinned (OpenSpec.ofChange countMonthSpec)

/-- ITS FALSE NEIGHBOUR: 'it returns false'. Refute it at one input. -/
def countMonthWrong : ChangeSpec := { name := "countMonth", fn := fun _ => fun
  | [d1, d2, d3, d4, d5] => { results := [.lit (.bool false)], args := [d1, d2, d3, d4, d5] }
  | _ => none }
def CountMonthWrongFalsely : Prop := countMonthRow.holds Try.pinned (OpenSpec.ofChange countMonthWrong)

/-- 'trivetlaw05.CountTurns': WHATEVER THE INPUT: true; the input reads as it did. -/
def countTurnsSpec : ChangeSpec := { name := "countTurns", fn := fun _ => fun
  | [d1, d2, d3, d4] => { results := [.lit (.bool true)], args := [d1, d2, d3, d4] }
  | _ => none }
def countTurnsRow : OpenClaim := { program := "ytonjhfneeejdaaa", sum := "0cd331291402b39fbae3573055357bb23e28f87d522507de18ac5f04e3a1ee3f", func := "trivet/trivetlaw05.CountTurns", spec := "countTurns", named := ["math/bits.divideError", "math/bits.overflowError"], apart := false }
def CountTurnsSaid : Prop := countTurnsRow.holds Try.pinned (OpenSpec.ofChange countTurnsSpec)

/-- ITS FALSE NEIGHBOUR: 'it returns false'. Refute it at one input. -/
def countTurnsWrong : ChangeSpec := { name := "countTurns", fn := fun _ => fun
  | [d1, d2, d3, d4] => { results := [.lit (.bool false)], args := [d1, d2, d3, d4] }
  | _ => none }
def CountTurnsWrongFalsely : Prop := countTurnsRow.holds Try.pinned (OpenSpec.ofChange countTurnsWrong)

/- THE SECOND FORM. 'bulk': how many values and letters a reading holds, each counted each time it is reached (what is shared counts as often as it is met; a slice's spare places count too). A statement '..UptoSaid' is the law's where the arguments, and the package variables that the reading takes, are together of bulk at most 1048576: NARROWER than '..Said'. Prove '..Said' where nothing that the law and all that it calls make is longer than what came in: it says more and counts as full. Else prove '..UptoSaid'. A law counts once. -/
mutual
def uptoBulk {H : Type} : DataW H → Nat
  | .lit (.string bytes) => bytes.length + 1
  | .lit _ => 1
  | .nil => 1
  | .ptr d => uptoBulk d + 1
  | .slice elems spare => uptoBulkAll elems + uptoBulkAll spare + 1
  | .agg parts => uptoBulkAll parts + 1
  | .iface _ d => uptoBulk d + 1
  | .map entries => uptoBulkEntries entries + 1
  | .held _ => 1
def uptoBulkAll {H : Type} : List (DataW H) → Nat
  | [] => 0
  | d :: r => uptoBulk d + uptoBulkAll r
def uptoBulkEntries {H : Type} : List (Lit × DataW H) → Nat
  | [] => 0
  | x :: r => uptoBulkEntry x + uptoBulkEntries r
def uptoBulkEntry {H : Type} : Lit × DataW H → Nat
  | (.string bytes, d) => bytes.length + uptoBulk d + 1
  | (_, d) => uptoBulk d + 1
 end
def uptoSmall : (H : Type) → List (DataW H) → Bool := fun _ ds => decide (uptoBulkAll ds ≤ 1048576)
def OpenSpec.upto (s : _root_.Go.ChangeSpec) : _root_.Go.OpenSpec := { _root_.Go.OpenSpec.ofChange s with cond := some uptoSmall }

/-- 'trivetlaw05.CountBetween', WHERE WHAT IT READS IS OF BULK AT MOST 1048576: true; the input reads as it did. -/
def countBetweenUptoRow : OpenClaim := { program := "ytonjhfneeejdaaa", sum := "0cd331291402b39fbae3573055357bb23e28f87d522507de18ac5f04e3a1ee3f", func := "trivet/trivetlaw05.CountBetween", spec := "countBetween", named := ["math/bits.divideError", "math/bits.overflowError"], apart := false, narrowed := true }
def CountBetweenUptoSaid : Prop := countBetweenUptoRow.holds Try.pinned (OpenSpec.upto countBetweenSpec)

/-- 'trivetlaw05.CountAccrues', WHERE WHAT IT READS IS OF BULK AT MOST 1048576: true; the input reads as it did. -/
def countAccruesUptoRow : OpenClaim := { program := "ytonjhfneeejdaaa", sum := "0cd331291402b39fbae3573055357bb23e28f87d522507de18ac5f04e3a1ee3f", func := "trivet/trivetlaw05.CountAccrues", spec := "countAccrues", named := ["math/bits.divideError", "math/bits.overflowError"], apart := false, narrowed := true }
def CountAccruesUptoSaid : Prop := countAccruesUptoRow.holds Try.pinned (OpenSpec.upto countAccruesSpec)

/-- 'trivetlaw05.CountMonth', WHERE WHAT IT READS IS OF BULK AT MOST 1048576: true; the input reads as it did. -/
def countMonthUptoRow : OpenClaim := { program := "ytonjhfneeejdaaa", sum := "0cd331291402b39fbae3573055357bb23e28f87d522507de18ac5f04e3a1ee3f", func := "trivet/trivetlaw05.CountMonth", spec := "countMonth", named := ["math/bits.divideError", "math/bits.overflowError"], apart := false, narrowed := true }
def CountMonthUptoSaid : Prop := countMonthUptoRow.holds Try.pinned (OpenSpec.upto countMonthSpec)

/-- 'trivetlaw05.CountTurns', WHERE WHAT IT READS IS OF BULK AT MOST 1048576: true; the input reads as it did. -/
def countTurnsUptoRow : OpenClaim := { program := "ytonjhfneeejdaaa", sum := "0cd331291402b39fbae3573055357bb23e28f87d522507de18ac5f04e3a1ee3f", func := "trivet/trivetlaw05.CountTurns", spec := "countTurns", named := ["math/bits.divideError", "math/bits.overflowError"], apart := false, narrowed := true }
def CountTurnsUptoSaid : Prop := countTurnsUptoRow.holds Try.pinned (OpenSpec.upto countTurnsSpec)

end Rows
end Go.Proofs.Ytonjhfneeejdaaa
