/-
  No cell of these rows narrows 'for every input' (looked for: loops, veiled, ifaces, maps, wideKeys, modest, calm, conditions, laid).
  DERIVED. THE GIVEN ROWS OF THIS SEAT. 2 by the template 'for every input the law returns true; each argument reads behind the call as it read before'; 0 by the template 'total and deterministic' (their statements: YtbfdmcjgkbpgnaaTotals.lean).
  GIVEN WITH THE SEED: the statements are not yours to turn. If you find one false, say at which input.
  Laid BY PROGRAM, IN A SANDBOX (cutbox-rows.mjs): the forced cells as the released guide's own fill.sh prints them over the translation 5ed15ea08d2f0c59… (all of the seat's roots in one cut). By AI agents, Wed Nov 11 2026. No macro, syntax, notation, axiom, sorry.
-/
import Derived.Test.YtbfdmcjgkbpgnaaChecked
import GoSem.Claim
import GoSem.ClaimJoined
import GoSem.ClaimMapViews
import Derived.JoinedTies
import Derived.KernelRfl
namespace Go.Proofs.Ytbfdmcjgkbpgnaa
/- THE CELL 'sum', in the pinned program and in every row, IS THE sha256 OF THE DUMP (.gsa) THAT YtbfdmcjgkbpgnaaProg.lean LOADS. Nothing in Lean hashes anything: it is a label: what it is worth is what the hold of that sum in a sandbox is worth. -/
noncomputable def Try.pinned : Pinned := { name := "ytbfdmcjgkbpgnaa", sum := "5ed15ea08d2f0c5944fba2fac3c88bd83c3ef134c10a5e6cc0dd3e32444993de", checked := Try.checked }
namespace Rows
def none {H : Type} : Left H := { results := [], args := [] }

/-- 'trivetlaw12.PlanWhole': WHATEVER THE INPUT: true; the input reads as it did. -/
def planWholeSpec : ChangeSpec := { name := "planWhole", fn := fun _ => fun
  | [d] => { results := [.lit (.bool true)], args := [d] }
  | _ => none }
def planWholeRow : OpenClaim := { program := "ytbfdmcjgkbpgnaa", sum := "5ed15ea08d2f0c5944fba2fac3c88bd83c3ef134c10a5e6cc0dd3e32444993de", func := "trivet/trivetlaw12.PlanWhole", spec := "planWhole", named := ["math/bits.divideError", "math/bits.overflowError"], apart := false }
def PlanWholeSaid : Prop := planWholeRow.holds Try.pinned (OpenSpec.ofChange planWholeSpec)

/-- ITS FALSE NEIGHBOUR: 'it returns false'. Refute it at one input. -/
def planWholeWrong : ChangeSpec := { name := "planWhole", fn := fun _ => fun
  | [d] => { results := [.lit (.bool false)], args := [d] }
  | _ => none }
def PlanWholeWrongFalsely : Prop := planWholeRow.holds Try.pinned (OpenSpec.ofChange planWholeWrong)

/-- 'trivetlaw12.PlanStays': WHATEVER THE INPUT: true; the input reads as it did. -/
def planStaysSpec : ChangeSpec := { name := "planStays", fn := fun _ => fun
  | [d] => { results := [.lit (.bool true)], args := [d] }
  | _ => none }
def planStaysRow : OpenClaim := { program := "ytbfdmcjgkbpgnaa", sum := "5ed15ea08d2f0c5944fba2fac3c88bd83c3ef134c10a5e6cc0dd3e32444993de", func := "trivet/trivetlaw12.PlanStays", spec := "planStays", named := ["math/bits.divideError", "math/bits.overflowError"], apart := false }
def PlanStaysSaid : Prop := planStaysRow.holds Try.pinned (OpenSpec.ofChange planStaysSpec)

/-- ITS FALSE NEIGHBOUR: 'it returns false'. Refute it at one input. -/
def planStaysWrong : ChangeSpec := { name := "planStays", fn := fun _ => fun
  | [d] => { results := [.lit (.bool false)], args := [d] }
  | _ => none }
def PlanStaysWrongFalsely : Prop := planStaysRow.holds Try.pinned (OpenSpec.ofChange planStaysWrong)

/- THE SECOND FORM. 'bulk': how many values and letters a reading holds, each counted each time it is reached (what is shared counts as often as it is met; a slice's spare places count too). A statement '..UptoSaid' is the law's where the arguments, and the package variables that the reading takes, are together of bulk at most 1048576: NARROWER than '..Said'. Prove '..Said' where nothing that the law and all that it calls make is longer than what came in: it says more and counts as full. Else prove '..UptoSaid'. A law counts once. -/
mutual
def uptoBulk {H : Type} : DataW H → Nat
  | .lit (.string bytes) => bytes.length + 1
  | .lit _ => 1
  | .nil => 1
  | .ptr d => uptoBulk d + 1
  | .slice elems spare => uptoBulkAll elems + uptoBulkAll spare + 1
  | .agg parts => uptoBulkAll parts + 1
  | .iface _ d => uptoBulk d + 1
  | .map entries => uptoBulkEntries entries + 1
  | .held _ => 1
def uptoBulkAll {H : Type} : List (DataW H) → Nat
  | [] => 0
  | d :: r => uptoBulk d + uptoBulkAll r
def uptoBulkEntries {H : Type} : List (Lit × DataW H) → Nat
  | [] => 0
  | x :: r => uptoBulkEntry x + uptoBulkEntries r
def uptoBulkEntry {H : Type} : Lit × DataW H → Nat
  | (.string bytes, d) => bytes.length + uptoBulk d + 1
  | (_, d) => uptoBulk d + 1
 end
def uptoSmall : (H : Type) → List (DataW H) → Bool := fun _ ds => decide (uptoBulkAll ds ≤ 1048576)
def OpenSpec.upto (s : _root_.Go.ChangeSpec) : _root_.Go.OpenSpec := { _root_.Go.OpenSpec.ofChange s with cond := some uptoSmall }

/-- 'trivetlaw12.PlanWhole', WHERE WHAT IT READS IS OF BULK AT MOST 1048576: true; the input reads as it did. -/
def planWholeUptoRow : OpenClaim := { program := "ytbfdmcjgkbpgnaa", sum := "5ed15ea08d2f0c5944fba2fac3c88bd83c3ef134c10a5e6cc0dd3e32444993de", func := "trivet/trivetlaw12.PlanWhole", spec := "planWhole", named := ["math/bits.divideError", "math/bits.overflowError"], apart := false, narrowed := true }
def PlanWholeUptoSaid : Prop := planWholeUptoRow.holds Try.pinned (OpenSpec.upto planWholeSpec)

/-- 'trivetlaw12.PlanStays', WHERE WHAT IT READS IS OF BULK AT MOST 1048576: true; the input reads as it did. -/
def planStaysUptoRow : OpenClaim := { program := "ytbfdmcjgkbpgnaa", sum := "5ed15ea08d2f0c5944fba2fac3c88bd83c3ef134c10a5e6cc0dd3e32444993de", func := "trivet/trivetlaw12.PlanStays", spec := "planStays", named := ["math/bits.divideError", "math/bits.overflowError"], apart := false, narrowed := true }
def PlanStaysUptoSaid : Prop := planStaysUptoRow.holds Try.pinned (OpenSpec.upto planStaysSpec)

end Rows
end Go.Proofs.Ytbfdmcjgkbpgnaa
