/-
  No cell of these rows narrows 'for every input' (looked for: loops, veiled, ifaces, maps, wideKeys, modest, calm, conditions, laid).
  DERIVED. THE GIVEN ROWS OF THIS SEAT. 5 by the template 'for every input the law returns true; each argument reads behind the call as it read before'; 0 by the template 'total and deterministic' (their statements: YtghimjkoaldafaaTotals.lean).
  GIVEN WITH THE SEED: the statements are not yours to turn. If you find one false, say at which input.
  Laid BY PROGRAM, IN A SANDBOX (cutbox-rows.mjs): the forced cells as the released guide's own fill.sh prints them over the translation bf0d1428b7d30b32… (all of the seat's roots in one cut). By AI agents, Wed Nov 11 2026. No macro, syntax, notation, axiom, sorry.
-/
import Derived.Test.YtghimjkoaldafaaChecked
import GoSem.Claim
import GoSem.ClaimJoined
import GoSem.ClaimMapViews
import Derived.JoinedTies
import Derived.KernelRfl
namespace Go.Proofs.Ytghimjkoaldafaa
/- THE CELL 'sum', in the pinned program and in every row, IS THE sha256 OF THE DUMP (.gsa) THAT YtghimjkoaldafaaProg.lean LOADS. Nothing in Lean hashes anything: it is a label: what it is worth is what the hold of that sum in a sandbox is worth. -/
noncomputable def Try.pinned : Pinned := { name := "ytghimjkoaldafaa", sum := "bf0d1428b7d30b3230e04f38c4d91228dca0afb1de315cf36a5d7a1100064bce", checked := Try.checked }
namespace Rows
def none {H : Type} : Left H := { results := [], args := [] }

/-- 'trivetlaw18.PoolStrips': WHATEVER THE INPUT: true; the input reads as it did. -/
def poolStripsSpec : ChangeSpec := { name := "poolStrips", fn := fun _ => fun
  | [d1, d2, d3, d4] => { results := [.lit (.bool true)], args := [d1, d2, d3, d4] }
  | _ => none }
def poolStripsRow : OpenClaim := { program := "ytghimjkoaldafaa", sum := "bf0d1428b7d30b3230e04f38c4d91228dca0afb1de315cf36a5d7a1100064bce", func := "trivet/trivetlaw18.PoolStrips", spec := "poolStrips", named := ["math/bits.divideError", "math/bits.overflowError"], apart := false }
def PoolStripsSaid : Prop := poolStripsRow.holds Try.pinned (OpenSpec.ofChange poolStripsSpec)

/-- ITS FALSE NEIGHBOUR: 'it returns false'. Refute it at one input. -/
def poolStripsWrong : ChangeSpec := { name := "poolStrips", fn := fun _ => fun
  | [d1, d2, d3, d4] => { results := [.lit (.bool false)], args := [d1, d2, d3, d4] }
  | _ => none }
def PoolStripsWrongFalsely : Prop := poolStripsRow.holds Try.pinned (OpenSpec.ofChange poolStripsWrong)

/-- 'trivetlaw18.PoolWhole': WHATEVER THE INPUT: true; the input reads as it did. -/
def poolWholeSpec : ChangeSpec := { name := "poolWhole", fn := fun _ => fun
  | [d1, d2, d3, d4, d5] => { results := [.lit (.bool true)], args := [d1, d2, d3, d4, d5] }
  | _ => none }
def poolWholeRow : OpenClaim := { program := "ytghimjkoaldafaa", sum := "bf0d1428b7d30b3230e04f38c4d91228dca0afb1de315cf36a5d7a1100064bce", func := "trivet/trivetlaw18.PoolWhole", spec := "poolWhole", named := ["math/bits.divideError", "math/bits.overflowError"], apart := false }
def PoolWholeSaid : Prop := poolWholeRow.holds Try.pinned (OpenSpec.ofChange poolWholeSpec)

/-- ITS FALSE NEIGHBOUR: 'it returns false'. Refute it at one input. -/
def poolWholeWrong : ChangeSpec := { name := "poolWhole", fn := fun _ => fun
  | [d1, d2, d3, d4, d5] => { results := [.lit (.bool false)], args := [d1, d2, d3, d4, d5] }
  | _ => none }
def PoolWholeWrongFalsely : Prop := poolWholeRow.holds Try.pinned (OpenSpec.ofChange poolWholeWrong)

/-- 'trivetlaw18.PoolAll': WHATEVER THE INPUT: true; the input reads as it did. -/
def poolAllSpec : ChangeSpec := { name := "poolAll", fn := fun _ => fun
  | [d1, d2, d3] => { results := [.lit (.bool true)], args := [d1, d2, d3] }
  | _ => none }
def poolAllRow : OpenClaim := { program := "ytghimjkoaldafaa", sum := "bf0d1428b7d30b3230e04f38c4d91228dca0afb1de315cf36a5d7a1100064bce", func := "trivet/trivetlaw18.PoolAll", spec := "poolAll", named := ["math/bits.divideError", "math/bits.overflowError"], apart := false }
def PoolAllSaid : Prop := poolAllRow.holds Try.pinned (OpenSpec.ofChange poolAllSpec)

/-- ITS FALSE NEIGHBOUR: 'it returns false'. Refute it at one input. -/
def poolAllWrong : ChangeSpec := { name := "poolAll", fn := fun _ => fun
  | [d1, d2, d3] => { results := [.lit (.bool false)], args := [d1, d2, d3] }
  | _ => none }
def PoolAllWrongFalsely : Prop := poolAllRow.holds Try.pinned (OpenSpec.ofChange poolAllWrong)

/-- 'trivetlaw18.PoolStays': WHATEVER THE INPUT: true; the input reads as it did. -/
def poolStaysSpec : ChangeSpec := { name := "poolStays", fn := fun _ => fun
  | [d1, d2] => { results := [.lit (.bool true)], args := [d1, d2] }
  | _ => none }
def poolStaysRow : OpenClaim := { program := "ytghimjkoaldafaa", sum := "bf0d1428b7d30b3230e04f38c4d91228dca0afb1de315cf36a5d7a1100064bce", func := "trivet/trivetlaw18.PoolStays", spec := "poolStays", unfollowed := true, recurses := true, named := ["math/bits.divideError", "math/bits.overflowError"], apart := false }
def PoolStaysSaid : Prop := poolStaysRow.holds Try.pinned (OpenSpec.ofChange poolStaysSpec)

/-- ITS FALSE NEIGHBOUR: 'it returns false'. Refute it at one input. -/
def poolStaysWrong : ChangeSpec := { name := "poolStays", fn := fun _ => fun
  | [d1, d2] => { results := [.lit (.bool false)], args := [d1, d2] }
  | _ => none }
def PoolStaysWrongFalsely : Prop := poolStaysRow.holds Try.pinned (OpenSpec.ofChange poolStaysWrong)

/-- 'trivetlaw18.PoolCuts': WHATEVER THE INPUT: true; the input reads as it did. -/
def poolCutsSpec : ChangeSpec := { name := "poolCuts", fn := fun _ => fun
  | [d1, d2, d3, d4, d5] => { results := [.lit (.bool true)], args := [d1, d2, d3, d4, d5] }
  | _ => none }
def poolCutsRow : OpenClaim := { program := "ytghimjkoaldafaa", sum := "bf0d1428b7d30b3230e04f38c4d91228dca0afb1de315cf36a5d7a1100064bce", func := "trivet/trivetlaw18.PoolCuts", spec := "poolCuts", unfollowed := true, recurses := true, named := ["math/bits.divideError", "math/bits.overflowError"], apart := false }
def PoolCutsSaid : Prop := poolCutsRow.holds Try.pinned (OpenSpec.ofChange poolCutsSpec)

/-- ITS FALSE NEIGHBOUR: 'it returns false'. Refute it at one input. -/
def poolCutsWrong : ChangeSpec := { name := "poolCuts", fn := fun _ => fun
  | [d1, d2, d3, d4, d5] => { results := [.lit (.bool false)], args := [d1, d2, d3, d4, d5] }
  | _ => none }
def PoolCutsWrongFalsely : Prop := poolCutsRow.holds Try.pinned (OpenSpec.ofChange poolCutsWrong)

/- THE SECOND FORM. 'bulk': how many values and letters a reading holds, each counted each time it is reached (what is shared counts as often as it is met; a slice's spare places count too). A statement '..UptoSaid' is the law's where the arguments, and the package variables that the reading takes, are together of bulk at most 1048576: NARROWER than '..Said'. Prove '..Said' where nothing that the law and all that it calls make is longer than what came in: it says more and counts as full. Else prove '..UptoSaid'. A law counts once. -/
mutual
def uptoBulk {H : Type} : DataW H → Nat
  | .lit (.string bytes) => bytes.length + 1
  | .lit _ => 1
  | .nil => 1
  | .ptr d => uptoBulk d + 1
  | .slice elems spare => uptoBulkAll elems + uptoBulkAll spare + 1
  | .agg parts => uptoBulkAll parts + 1
  | .iface _ d => uptoBulk d + 1
  | .map entries => uptoBulkEntries entries + 1
  | .held _ => 1
def uptoBulkAll {H : Type} : List (DataW H) → Nat
  | [] => 0
  | d :: r => uptoBulk d + uptoBulkAll r
def uptoBulkEntries {H : Type} : List (Lit × DataW H) → Nat
  | [] => 0
  | x :: r => uptoBulkEntry x + uptoBulkEntries r
def uptoBulkEntry {H : Type} : Lit × DataW H → Nat
  | (.string bytes, d) => bytes.length + uptoBulk d + 1
  | (_, d) => uptoBulk d + 1
 end
def uptoSmall : (H : Type) → List (DataW H) → Bool := fun _ ds => decide (uptoBulkAll ds ≤ 1048576)
def OpenSpec.upto (s : _root_.Go.ChangeSpec) : _root_.Go.OpenSpec := { _root_.Go.OpenSpec.ofChange s with cond := some uptoSmall }

/-- 'trivetlaw18.PoolStrips', WHERE WHAT IT READS IS OF BULK AT MOST 1048576: true; the input reads as it did. -/
def poolStripsUptoRow : OpenClaim := { program := "ytghimjkoaldafaa", sum := "bf0d1428b7d30b3230e04f38c4d91228dca0afb1de315cf36a5d7a1100064bce", func := "trivet/trivetlaw18.PoolStrips", spec := "poolStrips", named := ["math/bits.divideError", "math/bits.overflowError"], apart := false, narrowed := true }
def PoolStripsUptoSaid : Prop := poolStripsUptoRow.holds Try.pinned (OpenSpec.upto poolStripsSpec)

/-- 'trivetlaw18.PoolWhole', WHERE WHAT IT READS IS OF BULK AT MOST 1048576: true; the input reads as it did. -/
def poolWholeUptoRow : OpenClaim := { program := "ytghimjkoaldafaa", sum := "bf0d1428b7d30b3230e04f38c4d91228dca0afb1de315cf36a5d7a1100064bce", func := "trivet/trivetlaw18.PoolWhole", spec := "poolWhole", named := ["math/bits.divideError", "math/bits.overflowError"], apart := false, narrowed := true }
def PoolWholeUptoSaid : Prop := poolWholeUptoRow.holds Try.pinned (OpenSpec.upto poolWholeSpec)

/-- 'trivetlaw18.PoolAll', WHERE WHAT IT READS IS OF BULK AT MOST 1048576: true; the input reads as it did. -/
def poolAllUptoRow : OpenClaim := { program := "ytghimjkoaldafaa", sum := "bf0d1428b7d30b3230e04f38c4d91228dca0afb1de315cf36a5d7a1100064bce", func := "trivet/trivetlaw18.PoolAll", spec := "poolAll", named := ["math/bits.divideError", "math/bits.overflowError"], apart := false, narrowed := true }
def PoolAllUptoSaid : Prop := poolAllUptoRow.holds Try.pinned (OpenSpec.upto poolAllSpec)

/-- 'trivetlaw18.PoolStays', WHERE WHAT IT READS IS OF BULK AT MOST 1048576: true; the input reads as it did. -/
def poolStaysUptoRow : OpenClaim := { program := "ytghimjkoaldafaa", sum := "bf0d1428b7d30b3230e04f38c4d91228dca0afb1de315cf36a5d7a1100064bce", func := "trivet/trivetlaw18.PoolStays", spec := "poolStays", unfollowed := true, recurses := true, named := ["math/bits.divideError", "math/bits.overflowError"], apart := false, narrowed := true }
def PoolStaysUptoSaid : Prop := poolStaysUptoRow.holds Try.pinned (OpenSpec.upto poolStaysSpec)

/-- 'trivetlaw18.PoolCuts', WHERE WHAT IT READS IS OF BULK AT MOST 1048576: true; the input reads as it did. -/
def poolCutsUptoRow : OpenClaim := { program := "ytghimjkoaldafaa", sum := "bf0d1428b7d30b3230e04f38c4d91228dca0afb1de315cf36a5d7a1100064bce", func := "trivet/trivetlaw18.PoolCuts", spec := "poolCuts", unfollowed := true, recurses := true, named := ["math/bits.divideError", "math/bits.overflowError"], apart := false, narrowed := true }
def PoolCutsUptoSaid : Prop := poolCutsUptoRow.holds Try.pinned (OpenSpec.upto poolCutsSpec)

end Rows
end Go.Proofs.Ytghimjkoaldafaa
