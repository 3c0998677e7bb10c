/-
  No cell of these rows narrows 'for every input' (looked for: loops, veiled, ifaces, maps, wideKeys, modest, calm, conditions, laid).
  DERIVED. THE GIVEN ROWS OF THIS SEAT. 5 by the template 'for every input the law returns true; each argument reads behind the call as it read before'; 0 by the template 'total and deterministic' (their statements: YtjeghhheenenbaaTotals.lean).
  GIVEN WITH THE SEED: the statements are not yours to turn. If you find one false, say at which input.
  Laid BY PROGRAM, IN A SANDBOX (cutbox-rows.mjs): the forced cells as the released guide's own fill.sh prints them over the translation d70bb13bf6b05229… (all of the seat's roots in one cut). By AI agents, Wed Nov 11 2026. No macro, syntax, notation, axiom, sorry.
-/
import Derived.Test.YtjeghhheenenbaaChecked
import GoSem.Claim
import GoSem.ClaimJoined
import GoSem.ClaimMapViews
import Derived.JoinedTies
import Derived.KernelRfl
namespace Go.Proofs.Ytjeghhheenenbaa
/- THE CELL 'sum', in the pinned program and in every row, IS THE sha256 OF THE DUMP (.gsa) THAT YtjeghhheenenbaaProg.lean LOADS. Nothing in Lean hashes anything: it is a label: what it is worth is what the hold of that sum in a sandbox is worth. -/
noncomputable def Try.pinned : Pinned := { name := "ytjeghhheenenbaa", sum := "d70bb13bf6b0522955c2b21ae2b03ac909de8518b0882c6518fc646a286c2960", checked := Try.checked }
namespace Rows
def none {H : Type} : Left H := { results := [], args := [] }

/-- 'trivetlaw16.SpreadTells': WHATEVER THE INPUT: true; the input reads as it did. -/
def spreadTellsSpec : ChangeSpec := { name := "spreadTells", fn := fun _ => fun
  | [d1, d2, d3] => { results := [.lit (.bool true)], args := [d1, d2, d3] }
  | _ => none }
def spreadTellsRow : OpenClaim := { program := "ytjeghhheenenbaa", sum := "d70bb13bf6b0522955c2b21ae2b03ac909de8518b0882c6518fc646a286c2960", func := "trivet/trivetlaw16.SpreadTells", spec := "spreadTells", unfollowed := true, recurses := true, named := ["math/bits.divideError", "math/bits.overflowError"], apart := false }
def SpreadTellsSaid : Prop := spreadTellsRow.holds Try.pinned (OpenSpec.ofChange spreadTellsSpec)

/-- ITS FALSE NEIGHBOUR: 'it returns false'. Refute it at one input. -/
def spreadTellsWrong : ChangeSpec := { name := "spreadTells", fn := fun _ => fun
  | [d1, d2, d3] => { results := [.lit (.bool false)], args := [d1, d2, d3] }
  | _ => none }
def SpreadTellsWrongFalsely : Prop := spreadTellsRow.holds Try.pinned (OpenSpec.ofChange spreadTellsWrong)

/-- 'trivetlaw16.SpreadWhole': WHATEVER THE INPUT: true; the input reads as it did. -/
def spreadWholeSpec : ChangeSpec := { name := "spreadWhole", fn := fun _ => fun
  | [d1, d2, d3] => { results := [.lit (.bool true)], args := [d1, d2, d3] }
  | _ => none }
def spreadWholeRow : OpenClaim := { program := "ytjeghhheenenbaa", sum := "d70bb13bf6b0522955c2b21ae2b03ac909de8518b0882c6518fc646a286c2960", func := "trivet/trivetlaw16.SpreadWhole", spec := "spreadWhole", unfollowed := true, recurses := true, named := ["math/bits.divideError", "math/bits.overflowError"], apart := false }
def SpreadWholeSaid : Prop := spreadWholeRow.holds Try.pinned (OpenSpec.ofChange spreadWholeSpec)

/-- ITS FALSE NEIGHBOUR: 'it returns false'. Refute it at one input. -/
def spreadWholeWrong : ChangeSpec := { name := "spreadWhole", fn := fun _ => fun
  | [d1, d2, d3] => { results := [.lit (.bool false)], args := [d1, d2, d3] }
  | _ => none }
def SpreadWholeWrongFalsely : Prop := spreadWholeRow.holds Try.pinned (OpenSpec.ofChange spreadWholeWrong)

/-- 'trivetlaw16.SpreadEven': WHATEVER THE INPUT: true; the input reads as it did. -/
def spreadEvenSpec : ChangeSpec := { name := "spreadEven", fn := fun _ => fun
  | [d1, d2, d3] => { results := [.lit (.bool true)], args := [d1, d2, d3] }
  | _ => none }
def spreadEvenRow : OpenClaim := { program := "ytjeghhheenenbaa", sum := "d70bb13bf6b0522955c2b21ae2b03ac909de8518b0882c6518fc646a286c2960", func := "trivet/trivetlaw16.SpreadEven", spec := "spreadEven", unfollowed := true, recurses := true, named := ["math/bits.divideError", "math/bits.overflowError"], apart := false }
def SpreadEvenSaid : Prop := spreadEvenRow.holds Try.pinned (OpenSpec.ofChange spreadEvenSpec)

/-- ITS FALSE NEIGHBOUR: 'it returns false'. Refute it at one input. -/
def spreadEvenWrong : ChangeSpec := { name := "spreadEven", fn := fun _ => fun
  | [d1, d2, d3] => { results := [.lit (.bool false)], args := [d1, d2, d3] }
  | _ => none }
def SpreadEvenWrongFalsely : Prop := spreadEvenRow.holds Try.pinned (OpenSpec.ofChange spreadEvenWrong)

/-- 'trivetlaw16.SpreadStays': WHATEVER THE INPUT: true; the input reads as it did. -/
def spreadStaysSpec : ChangeSpec := { name := "spreadStays", fn := fun _ => fun
  | [d1, d2, d3] => { results := [.lit (.bool true)], args := [d1, d2, d3] }
  | _ => none }
def spreadStaysRow : OpenClaim := { program := "ytjeghhheenenbaa", sum := "d70bb13bf6b0522955c2b21ae2b03ac909de8518b0882c6518fc646a286c2960", func := "trivet/trivetlaw16.SpreadStays", spec := "spreadStays", unfollowed := true, recurses := true, named := ["math/bits.divideError", "math/bits.overflowError"], apart := false }
def SpreadStaysSaid : Prop := spreadStaysRow.holds Try.pinned (OpenSpec.ofChange spreadStaysSpec)

/-- ITS FALSE NEIGHBOUR: 'it returns false'. Refute it at one input. -/
def spreadStaysWrong : ChangeSpec := { name := "spreadStays", fn := fun _ => fun
  | [d1, d2, d3] => { results := [.lit (.bool false)], args := [d1, d2, d3] }
  | _ => none }
def SpreadStaysWrongFalsely : Prop := spreadStaysRow.holds Try.pinned (OpenSpec.ofChange spreadStaysWrong)

/-- 'trivetlaw16.SpreadRefunds': WHATEVER THE INPUT: true; the input reads as it did. -/
def spreadRefundsSpec : ChangeSpec := { name := "spreadRefunds", fn := fun _ => fun
  | [d1, d2, d3] => { results := [.lit (.bool true)], args := [d1, d2, d3] }
  | _ => none }
def spreadRefundsRow : OpenClaim := { program := "ytjeghhheenenbaa", sum := "d70bb13bf6b0522955c2b21ae2b03ac909de8518b0882c6518fc646a286c2960", func := "trivet/trivetlaw16.SpreadRefunds", spec := "spreadRefunds", unfollowed := true, recurses := true, named := ["math/bits.divideError", "math/bits.overflowError"], apart := false }
def SpreadRefundsSaid : Prop := spreadRefundsRow.holds Try.pinned (OpenSpec.ofChange spreadRefundsSpec)

/-- ITS FALSE NEIGHBOUR: 'it returns false'. Refute it at one input. -/
def spreadRefundsWrong : ChangeSpec := { name := "spreadRefunds", fn := fun _ => fun
  | [d1, d2, d3] => { results := [.lit (.bool false)], args := [d1, d2, d3] }
  | _ => none }
def SpreadRefundsWrongFalsely : Prop := spreadRefundsRow.holds Try.pinned (OpenSpec.ofChange spreadRefundsWrong)

/- THE SECOND FORM. 'bulk': how many values and letters a reading holds, each counted each time it is reached (what is shared counts as often as it is met; a slice's spare places count too). A statement '..UptoSaid' is the law's where the arguments, and the package variables that the reading takes, are together of bulk at most 1048576: NARROWER than '..Said'. Prove '..Said' where nothing that the law and all that it calls make is longer than what came in: it says more and counts as full. Else prove '..UptoSaid'. A law counts once. -/
mutual
def uptoBulk {H : Type} : DataW H → Nat
  | .lit (.string bytes) => bytes.length + 1
  | .lit _ => 1
  | .nil => 1
  | .ptr d => uptoBulk d + 1
  | .slice elems spare => uptoBulkAll elems + uptoBulkAll spare + 1
  | .agg parts => uptoBulkAll parts + 1
  | .iface _ d => uptoBulk d + 1
  | .map entries => uptoBulkEntries entries + 1
  | .held _ => 1
def uptoBulkAll {H : Type} : List (DataW H) → Nat
  | [] => 0
  | d :: r => uptoBulk d + uptoBulkAll r
def uptoBulkEntries {H : Type} : List (Lit × DataW H) → Nat
  | [] => 0
  | x :: r => uptoBulkEntry x + uptoBulkEntries r
def uptoBulkEntry {H : Type} : Lit × DataW H → Nat
  | (.string bytes, d) => bytes.length + uptoBulk d + 1
  | (_, d) => uptoBulk d + 1
 end
def uptoSmall : (H : Type) → List (DataW H) → Bool := fun _ ds => decide (uptoBulkAll ds ≤ 1048576)
def OpenSpec.upto (s : _root_.Go.ChangeSpec) : _root_.Go.OpenSpec := { _root_.Go.OpenSpec.ofChange s with cond := some uptoSmall }

/-- 'trivetlaw16.SpreadTells', WHERE WHAT IT READS IS OF BULK AT MOST 1048576: true; the input reads as it did. -/
def spreadTellsUptoRow : OpenClaim := { program := "ytjeghhheenenbaa", sum := "d70bb13bf6b0522955c2b21ae2b03ac909de8518b0882c6518fc646a286c2960", func := "trivet/trivetlaw16.SpreadTells", spec := "spreadTells", unfollowed := true, recurses := true, named := ["math/bits.divideError", "math/bits.overflowError"], apart := false, narrowed := true }
def SpreadTellsUptoSaid : Prop := spreadTellsUptoRow.holds Try.pinned (OpenSpec.upto spreadTellsSpec)

/-- 'trivetlaw16.SpreadWhole', WHERE WHAT IT READS IS OF BULK AT MOST 1048576: true; the input reads as it did. -/
def spreadWholeUptoRow : OpenClaim := { program := "ytjeghhheenenbaa", sum := "d70bb13bf6b0522955c2b21ae2b03ac909de8518b0882c6518fc646a286c2960", func := "trivet/trivetlaw16.SpreadWhole", spec := "spreadWhole", unfollowed := true, recurses := true, named := ["math/bits.divideError", "math/bits.overflowError"], apart := false, narrowed := true }
def SpreadWholeUptoSaid : Prop := spreadWholeUptoRow.holds Try.pinned (OpenSpec.upto spreadWholeSpec)

/-- 'trivetlaw16.SpreadEven', WHERE WHAT IT READS IS OF BULK AT MOST 1048576: true; the input reads as it did. -/
def spreadEvenUptoRow : OpenClaim := { program := "ytjeghhheenenbaa", sum := "d70bb13bf6b0522955c2b21ae2b03ac909de8518b0882c6518fc646a286c2960", func := "trivet/trivetlaw16.SpreadEven", spec := "spreadEven", unfollowed := true, recurses := true, named := ["math/bits.divideError", "math/bits.overflowError"], apart := false, narrowed := true }
def SpreadEvenUptoSaid : Prop := spreadEvenUptoRow.holds Try.pinned (OpenSpec.upto spreadEvenSpec)

/-- 'trivetlaw16.SpreadStays', WHERE WHAT IT READS IS OF BULK AT MOST 1048576: true; the input reads as it did. -/
def spreadStaysUptoRow : OpenClaim := { program := "ytjeghhheenenbaa", sum := "d70bb13bf6b0522955c2b21ae2b03ac909de8518b0882c6518fc646a286c2960", func := "trivet/trivetlaw16.SpreadStays", spec := "spreadStays", unfollowed := true, recurses := true, named := ["math/bits.divideError", "math/bits.overflowError"], apart := false, narrowed := true }
def SpreadStaysUptoSaid : Prop := spreadStaysUptoRow.holds Try.pinned (OpenSpec.upto spreadStaysSpec)

/-- 'trivetlaw16.SpreadRefunds', WHERE WHAT IT READS IS OF BULK AT MOST 1048576: true; the input reads as it did. -/
def spreadRefundsUptoRow : OpenClaim := { program := "ytjeghhheenenbaa", sum := "d70bb13bf6b0522955c2b21ae2b03ac909de8518b0882c6518fc646a286c2960", func := "trivet/trivetlaw16.SpreadRefunds", spec := "spreadRefunds", unfollowed := true, recurses := true, named := ["math/bits.divideError", "math/bits.overflowError"], apart := false, narrowed := true }
def SpreadRefundsUptoSaid : Prop := spreadRefundsUptoRow.holds Try.pinned (OpenSpec.upto spreadRefundsSpec)

end Rows
end Go.Proofs.Ytjeghhheenenbaa
