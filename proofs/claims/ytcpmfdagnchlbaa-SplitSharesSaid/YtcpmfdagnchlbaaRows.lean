/-
  No cell of these rows narrows 'for every input' (looked for: loops, veiled, ifaces, maps, wideKeys, modest, calm, conditions, laid).
  DERIVED. THE GIVEN ROWS OF THIS SEAT. 6 by the template 'for every input the law returns true; each argument reads behind the call as it read before'; 0 by the template 'total and deterministic' (their statements: YtcpmfdagnchlbaaTotals.lean).
  GIVEN WITH THE SEED: the statements are not yours to turn. If you find one false, say at which input.
  Laid BY PROGRAM, IN A SANDBOX (cutbox-rows.mjs): the forced cells as the released guide's own fill.sh prints them over the translation 70340bdc9952f0a2… (all of the seat's roots in one cut). By AI agents, Wed Nov 11 2026. No macro, syntax, notation, axiom, sorry.
-/
import Derived.Test.YtcpmfdagnchlbaaChecked
import GoSem.Claim
import GoSem.ClaimJoined
import GoSem.ClaimMapViews
import Derived.JoinedTies
import Derived.KernelRfl
namespace Go.Proofs.Ytcpmfdagnchlbaa
/- THE CELL 'sum', in the pinned program and in every row, IS THE sha256 OF THE DUMP (.gsa) THAT YtcpmfdagnchlbaaProg.lean LOADS. Nothing in Lean hashes anything: it is a label: what it is worth is what the hold of that sum in a sandbox is worth. -/
noncomputable def Try.pinned : Pinned := { name := "ytcpmfdagnchlbaa", sum := "70340bdc9952f0a26f417f45ed8257a2686b6dc777291776c385332f9f4a4e38", checked := Try.checked }
namespace Rows
def none {H : Type} : Left H := { results := [], args := [] }

/-- 'trivetlaw03.SplitShares': WHATEVER THE INPUT: true; the input reads as it did. -/
def splitSharesSpec : ChangeSpec := { name := "splitShares", fn := fun _ => fun
  | [d1, d2] => { results := [.lit (.bool true)], args := [d1, d2] }
  | _ => none }
def splitSharesRow : OpenClaim := { program := "ytcpmfdagnchlbaa", sum := "70340bdc9952f0a26f417f45ed8257a2686b6dc777291776c385332f9f4a4e38", func := "trivet/trivetlaw03.SplitShares", spec := "splitShares", unfollowed := true, recurses := true, named := ["math/bits.divideError", "math/bits.overflowError"], apart := false }
def SplitSharesSaid : Prop := splitSharesRow.holds Try.pinned (OpenSpec.ofChange splitSharesSpec)

/-- ITS FALSE NEIGHBOUR: 'it returns false'. Refute it at one input. -/
def splitSharesWrong : ChangeSpec := { name := "splitShares", fn := fun _ => fun
  | [d1, d2] => { results := [.lit (.bool false)], args := [d1, d2] }
  | _ => none }
def SplitSharesWrongFalsely : Prop := splitSharesRow.holds Try.pinned (OpenSpec.ofChange splitSharesWrong)

/-- 'trivetlaw03.SplitWhole': WHATEVER THE INPUT: true; the input reads as it did. -/
def splitWholeSpec : ChangeSpec := { name := "splitWhole", fn := fun _ => fun
  | [d1, d2] => { results := [.lit (.bool true)], args := [d1, d2] }
  | _ => none }
def splitWholeRow : OpenClaim := { program := "ytcpmfdagnchlbaa", sum := "70340bdc9952f0a26f417f45ed8257a2686b6dc777291776c385332f9f4a4e38", func := "trivet/trivetlaw03.SplitWhole", spec := "splitWhole", unfollowed := true, recurses := true, named := ["math/bits.divideError", "math/bits.overflowError"], apart := false }
def SplitWholeSaid : Prop := splitWholeRow.holds Try.pinned (OpenSpec.ofChange splitWholeSpec)

/-- ITS FALSE NEIGHBOUR: 'it returns false'. Refute it at one input. -/
def splitWholeWrong : ChangeSpec := { name := "splitWhole", fn := fun _ => fun
  | [d1, d2] => { results := [.lit (.bool false)], args := [d1, d2] }
  | _ => none }
def SplitWholeWrongFalsely : Prop := splitWholeRow.holds Try.pinned (OpenSpec.ofChange splitWholeWrong)

/-- 'trivetlaw03.SplitStays': WHATEVER THE INPUT: true; the input reads as it did. -/
def splitStaysSpec : ChangeSpec := { name := "splitStays", fn := fun _ => fun
  | [d1, d2] => { results := [.lit (.bool true)], args := [d1, d2] }
  | _ => none }
def splitStaysRow : OpenClaim := { program := "ytcpmfdagnchlbaa", sum := "70340bdc9952f0a26f417f45ed8257a2686b6dc777291776c385332f9f4a4e38", func := "trivet/trivetlaw03.SplitStays", spec := "splitStays", unfollowed := true, recurses := true, named := ["math/bits.divideError", "math/bits.overflowError"], apart := false }
def SplitStaysSaid : Prop := splitStaysRow.holds Try.pinned (OpenSpec.ofChange splitStaysSpec)

/-- ITS FALSE NEIGHBOUR: 'it returns false'. Refute it at one input. -/
def splitStaysWrong : ChangeSpec := { name := "splitStays", fn := fun _ => fun
  | [d1, d2] => { results := [.lit (.bool false)], args := [d1, d2] }
  | _ => none }
def SplitStaysWrongFalsely : Prop := splitStaysRow.holds Try.pinned (OpenSpec.ofChange splitStaysWrong)

/-- 'trivetlaw03.SplitFirst': WHATEVER THE INPUT: true; the input reads as it did. -/
def splitFirstSpec : ChangeSpec := { name := "splitFirst", fn := fun _ => fun
  | [d1, d2] => { results := [.lit (.bool true)], args := [d1, d2] }
  | _ => none }
def splitFirstRow : OpenClaim := { program := "ytcpmfdagnchlbaa", sum := "70340bdc9952f0a26f417f45ed8257a2686b6dc777291776c385332f9f4a4e38", func := "trivet/trivetlaw03.SplitFirst", spec := "splitFirst", unfollowed := true, recurses := true, named := ["math/bits.divideError", "math/bits.overflowError"], apart := false }
def SplitFirstSaid : Prop := splitFirstRow.holds Try.pinned (OpenSpec.ofChange splitFirstSpec)

/-- ITS FALSE NEIGHBOUR: 'it returns false'. Refute it at one input. -/
def splitFirstWrong : ChangeSpec := { name := "splitFirst", fn := fun _ => fun
  | [d1, d2] => { results := [.lit (.bool false)], args := [d1, d2] }
  | _ => none }
def SplitFirstWrongFalsely : Prop := splitFirstRow.holds Try.pinned (OpenSpec.ofChange splitFirstWrong)

/-- 'trivetlaw03.SplitScales': WHATEVER THE INPUT: true; the input reads as it did. -/
def splitScalesSpec : ChangeSpec := { name := "splitScales", fn := fun _ => fun
  | [d1, d2, d3] => { results := [.lit (.bool true)], args := [d1, d2, d3] }
  | _ => none }
def splitScalesRow : OpenClaim := { program := "ytcpmfdagnchlbaa", sum := "70340bdc9952f0a26f417f45ed8257a2686b6dc777291776c385332f9f4a4e38", func := "trivet/trivetlaw03.SplitScales", spec := "splitScales", unfollowed := true, recurses := true, named := ["math/bits.divideError", "math/bits.overflowError"], apart := false }
def SplitScalesSaid : Prop := splitScalesRow.holds Try.pinned (OpenSpec.ofChange splitScalesSpec)

/-- ITS FALSE NEIGHBOUR: 'it returns false'. Refute it at one input. -/
def splitScalesWrong : ChangeSpec := { name := "splitScales", fn := fun _ => fun
  | [d1, d2, d3] => { results := [.lit (.bool false)], args := [d1, d2, d3] }
  | _ => none }
def SplitScalesWrongFalsely : Prop := splitScalesRow.holds Try.pinned (OpenSpec.ofChange splitScalesWrong)

/-- 'trivetlaw03.SplitEven': WHATEVER THE INPUT: true; the input reads as it did. -/
def splitEvenSpec : ChangeSpec := { name := "splitEven", fn := fun _ => fun
  | [d1, d2] => { results := [.lit (.bool true)], args := [d1, d2] }
  | _ => none }
def splitEvenRow : OpenClaim := { program := "ytcpmfdagnchlbaa", sum := "70340bdc9952f0a26f417f45ed8257a2686b6dc777291776c385332f9f4a4e38", func := "trivet/trivetlaw03.SplitEven", spec := "splitEven", unfollowed := true, recurses := true, named := ["math/bits.divideError", "math/bits.overflowError"], apart := false }
def SplitEvenSaid : Prop := splitEvenRow.holds Try.pinned (OpenSpec.ofChange splitEvenSpec)

/-- ITS FALSE NEIGHBOUR: 'it returns false'. Refute it at one input. -/
def splitEvenWrong : ChangeSpec := { name := "splitEven", fn := fun _ => fun
  | [d1, d2] => { results := [.lit (.bool false)], args := [d1, d2] }
  | _ => none }
def SplitEvenWrongFalsely : Prop := splitEvenRow.holds Try.pinned (OpenSpec.ofChange splitEvenWrong)

/- THE SECOND FORM. 'bulk': how many values and letters a reading holds, each counted each time it is reached (what is shared counts as often as it is met; a slice's spare places count too). A statement '..UptoSaid' is the law's where the arguments, and the package variables that the reading takes, are together of bulk at most 1048576: NARROWER than '..Said'. Prove '..Said' where nothing that the law and all that it calls make is longer than what came in: it says more and counts as full. Else prove '..UptoSaid'. A law counts once. -/
mutual
def uptoBulk {H : Type} : DataW H → Nat
  | .lit (.string bytes) => bytes.length + 1
  | .lit _ => 1
  | .nil => 1
  | .ptr d => uptoBulk d + 1
  | .slice elems spare => uptoBulkAll elems + uptoBulkAll spare + 1
  | .agg parts => uptoBulkAll parts + 1
  | .iface _ d => uptoBulk d + 1
  | .map entries => uptoBulkEntries entries + 1
  | .held _ => 1
def uptoBulkAll {H : Type} : List (DataW H) → Nat
  | [] => 0
  | d :: r => uptoBulk d + uptoBulkAll r
def uptoBulkEntries {H : Type} : List (Lit × DataW H) → Nat
  | [] => 0
  | x :: r => uptoBulkEntry x + uptoBulkEntries r
def uptoBulkEntry {H : Type} : Lit × DataW H → Nat
  | (.string bytes, d) => bytes.length + uptoBulk d + 1
  | (_, d) => uptoBulk d + 1
 end
def uptoSmall : (H : Type) → List (DataW H) → Bool := fun _ ds => decide (uptoBulkAll ds ≤ 1048576)
def OpenSpec.upto (s : _root_.Go.ChangeSpec) : _root_.Go.OpenSpec := { _root_.Go.OpenSpec.ofChange s with cond := some uptoSmall }

/-- 'trivetlaw03.SplitShares', WHERE WHAT IT READS IS OF BULK AT MOST 1048576: true; the input reads as it did. -/
def splitSharesUptoRow : OpenClaim := { program := "ytcpmfdagnchlbaa", sum := "70340bdc9952f0a26f417f45ed8257a2686b6dc777291776c385332f9f4a4e38", func := "trivet/trivetlaw03.SplitShares", spec := "splitShares", unfollowed := true, recurses := true, named := ["math/bits.divideError", "math/bits.overflowError"], apart := false, narrowed := true }
def SplitSharesUptoSaid : Prop := splitSharesUptoRow.holds Try.pinned (OpenSpec.upto splitSharesSpec)

/-- 'trivetlaw03.SplitWhole', WHERE WHAT IT READS IS OF BULK AT MOST 1048576: true; the input reads as it did. -/
def splitWholeUptoRow : OpenClaim := { program := "ytcpmfdagnchlbaa", sum := "70340bdc9952f0a26f417f45ed8257a2686b6dc777291776c385332f9f4a4e38", func := "trivet/trivetlaw03.SplitWhole", spec := "splitWhole", unfollowed := true, recurses := true, named := ["math/bits.divideError", "math/bits.overflowError"], apart := false, narrowed := true }
def SplitWholeUptoSaid : Prop := splitWholeUptoRow.holds Try.pinned (OpenSpec.upto splitWholeSpec)

/-- 'trivetlaw03.SplitStays', WHERE WHAT IT READS IS OF BULK AT MOST 1048576: true; the input reads as it did. -/
def splitStaysUptoRow : OpenClaim := { program := "ytcpmfdagnchlbaa", sum := "70340bdc9952f0a26f417f45ed8257a2686b6dc777291776c385332f9f4a4e38", func := "trivet/trivetlaw03.SplitStays", spec := "splitStays", unfollowed := true, recurses := true, named := ["math/bits.divideError", "math/bits.overflowError"], apart := false, narrowed := true }
def SplitStaysUptoSaid : Prop := splitStaysUptoRow.holds Try.pinned (OpenSpec.upto splitStaysSpec)

/-- 'trivetlaw03.SplitFirst', WHERE WHAT IT READS IS OF BULK AT MOST 1048576: true; the input reads as it did. -/
def splitFirstUptoRow : OpenClaim := { program := "ytcpmfdagnchlbaa", sum := "70340bdc9952f0a26f417f45ed8257a2686b6dc777291776c385332f9f4a4e38", func := "trivet/trivetlaw03.SplitFirst", spec := "splitFirst", unfollowed := true, recurses := true, named := ["math/bits.divideError", "math/bits.overflowError"], apart := false, narrowed := true }
def SplitFirstUptoSaid : Prop := splitFirstUptoRow.holds Try.pinned (OpenSpec.upto splitFirstSpec)

/-- 'trivetlaw03.SplitScales', WHERE WHAT IT READS IS OF BULK AT MOST 1048576: true; the input reads as it did. -/
def splitScalesUptoRow : OpenClaim := { program := "ytcpmfdagnchlbaa", sum := "70340bdc9952f0a26f417f45ed8257a2686b6dc777291776c385332f9f4a4e38", func := "trivet/trivetlaw03.SplitScales", spec := "splitScales", unfollowed := true, recurses := true, named := ["math/bits.divideError", "math/bits.overflowError"], apart := false, narrowed := true }
def SplitScalesUptoSaid : Prop := splitScalesUptoRow.holds Try.pinned (OpenSpec.upto splitScalesSpec)

/-- 'trivetlaw03.SplitEven', WHERE WHAT IT READS IS OF BULK AT MOST 1048576: true; the input reads as it did. -/
def splitEvenUptoRow : OpenClaim := { program := "ytcpmfdagnchlbaa", sum := "70340bdc9952f0a26f417f45ed8257a2686b6dc777291776c385332f9f4a4e38", func := "trivet/trivetlaw03.SplitEven", spec := "splitEven", unfollowed := true, recurses := true, named := ["math/bits.divideError", "math/bits.overflowError"], apart := false, narrowed := true }
def SplitEvenUptoSaid : Prop := splitEvenUptoRow.holds Try.pinned (OpenSpec.upto splitEvenSpec)

end Rows
end Go.Proofs.Ytcpmfdagnchlbaa
