/-
  No cell of these rows narrows 'for every input' (looked for: loops, veiled, ifaces, maps, wideKeys, modest, calm, conditions, laid).
  DERIVED. THE GIVEN ROWS OF THIS SEAT. 9 by the template 'for every input the law returns true; each argument reads behind the call as it read before'; 0 by the template 'total and deterministic' (their statements: YtdddiahgkpfikaaTotals.lean).
  GIVEN WITH THE SEED: the statements are not yours to turn. If you find one false, say at which input.
  Laid BY PROGRAM, IN A SANDBOX (cutbox-rows.mjs): the forced cells as the released guide's own fill.sh prints them over the translation e7aefa99cb91f4fd… (all of the seat's roots in one cut). By AI agents, Wed Nov 11 2026. No macro, syntax, notation, axiom, sorry.
-/
import Derived.Test.YtdddiahgkpfikaaChecked
import GoSem.Claim
import GoSem.ClaimJoined
import GoSem.ClaimMapViews
import Derived.JoinedTies
import Derived.KernelRfl
namespace Go.Proofs.Ytdddiahgkpfikaa
/- THE CELL 'sum', in the pinned program and in every row, IS THE sha256 OF THE DUMP (.gsa) THAT YtdddiahgkpfikaaProg.lean LOADS. Nothing in Lean hashes anything: it is a label: what it is worth is what the hold of that sum in a sandbox is worth. -/
noncomputable def Try.pinned : Pinned := { name := "ytdddiahgkpfikaa", sum := "e7aefa99cb91f4fd474aaf2d3f5278b53134171abfec6506f79310be76b314db", checked := Try.checked }
namespace Rows
def none {H : Type} : Left H := { results := [], args := [] }

/-- 'trivetlaw01.CentsQuotients': WHATEVER THE INPUT: true; the input reads as it did. -/
def centsQuotientsSpec : ChangeSpec := { name := "centsQuotients", fn := fun _ => fun
  | [d1, d2, d3, d4] => { results := [.lit (.bool true)], args := [d1, d2, d3, d4] }
  | _ => none }
def centsQuotientsRow : OpenClaim := { program := "ytdddiahgkpfikaa", sum := "e7aefa99cb91f4fd474aaf2d3f5278b53134171abfec6506f79310be76b314db", func := "trivet/trivetlaw01.CentsQuotients", spec := "centsQuotients", named := ["math/bits.divideError", "math/bits.overflowError"], apart := false }
def CentsQuotientsSaid : Prop := centsQuotientsRow.holds Try.pinned (OpenSpec.ofChange centsQuotientsSpec)

/-- ITS FALSE NEIGHBOUR: 'it returns false'. Refute it at one input. -/
def centsQuotientsWrong : ChangeSpec := { name := "centsQuotients", fn := fun _ => fun
  | [d1, d2, d3, d4] => { results := [.lit (.bool false)], args := [d1, d2, d3, d4] }
  | _ => none }
def CentsQuotientsWrongFalsely : Prop := centsQuotientsRow.holds Try.pinned (OpenSpec.ofChange centsQuotientsWrong)

/-- 'trivetlaw01.CentsSigns': WHATEVER THE INPUT: true; the input reads as it did. -/
def centsSignsSpec : ChangeSpec := { name := "centsSigns", fn := fun _ => fun
  | [d1, d2, d3, d4] => { results := [.lit (.bool true)], args := [d1, d2, d3, d4] }
  | _ => none }
def centsSignsRow : OpenClaim := { program := "ytdddiahgkpfikaa", sum := "e7aefa99cb91f4fd474aaf2d3f5278b53134171abfec6506f79310be76b314db", func := "trivet/trivetlaw01.CentsSigns", spec := "centsSigns", named := ["math/bits.divideError", "math/bits.overflowError"], apart := false }
def CentsSignsSaid : Prop := centsSignsRow.holds Try.pinned (OpenSpec.ofChange centsSignsSpec)

/-- ITS FALSE NEIGHBOUR: 'it returns false'. Refute it at one input. -/
def centsSignsWrong : ChangeSpec := { name := "centsSigns", fn := fun _ => fun
  | [d1, d2, d3, d4] => { results := [.lit (.bool false)], args := [d1, d2, d3, d4] }
  | _ => none }
def CentsSignsWrongFalsely : Prop := centsSignsRow.holds Try.pinned (OpenSpec.ofChange centsSignsWrong)

/-- 'trivetlaw01.CentsWhole': WHATEVER THE INPUT: true; the input reads as it did. -/
def centsWholeSpec : ChangeSpec := { name := "centsWhole", fn := fun _ => fun
  | [d1, d2, d3] => { results := [.lit (.bool true)], args := [d1, d2, d3] }
  | _ => none }
def centsWholeRow : OpenClaim := { program := "ytdddiahgkpfikaa", sum := "e7aefa99cb91f4fd474aaf2d3f5278b53134171abfec6506f79310be76b314db", func := "trivet/trivetlaw01.CentsWhole", spec := "centsWhole", named := ["math/bits.divideError", "math/bits.overflowError"], apart := false }
def CentsWholeSaid : Prop := centsWholeRow.holds Try.pinned (OpenSpec.ofChange centsWholeSpec)

/-- ITS FALSE NEIGHBOUR: 'it returns false'. Refute it at one input. -/
def centsWholeWrong : ChangeSpec := { name := "centsWhole", fn := fun _ => fun
  | [d1, d2, d3] => { results := [.lit (.bool false)], args := [d1, d2, d3] }
  | _ => none }
def CentsWholeWrongFalsely : Prop := centsWholeRow.holds Try.pinned (OpenSpec.ofChange centsWholeWrong)

/-- 'trivetlaw01.CentsNear': WHATEVER THE INPUT: true; the input reads as it did. -/
def centsNearSpec : ChangeSpec := { name := "centsNear", fn := fun _ => fun
  | [d1, d2, d3] => { results := [.lit (.bool true)], args := [d1, d2, d3] }
  | _ => none }
def centsNearRow : OpenClaim := { program := "ytdddiahgkpfikaa", sum := "e7aefa99cb91f4fd474aaf2d3f5278b53134171abfec6506f79310be76b314db", func := "trivet/trivetlaw01.CentsNear", spec := "centsNear", named := ["math/bits.divideError", "math/bits.overflowError"], apart := false }
def CentsNearSaid : Prop := centsNearRow.holds Try.pinned (OpenSpec.ofChange centsNearSpec)

/-- ITS FALSE NEIGHBOUR: 'it returns false'. Refute it at one input. -/
def centsNearWrong : ChangeSpec := { name := "centsNear", fn := fun _ => fun
  | [d1, d2, d3] => { results := [.lit (.bool false)], args := [d1, d2, d3] }
  | _ => none }
def CentsNearWrongFalsely : Prop := centsNearRow.holds Try.pinned (OpenSpec.ofChange centsNearWrong)

/-- 'trivetlaw01.CentsBack': WHATEVER THE INPUT: true; the input reads as it did. -/
def centsBackSpec : ChangeSpec := { name := "centsBack", fn := fun _ => fun
  | [d1, d2] => { results := [.lit (.bool true)], args := [d1, d2] }
  | _ => none }
def centsBackRow : OpenClaim := { program := "ytdddiahgkpfikaa", sum := "e7aefa99cb91f4fd474aaf2d3f5278b53134171abfec6506f79310be76b314db", func := "trivet/trivetlaw01.CentsBack", spec := "centsBack", named := ["math/bits.divideError", "math/bits.overflowError"], apart := false }
def CentsBackSaid : Prop := centsBackRow.holds Try.pinned (OpenSpec.ofChange centsBackSpec)

/-- ITS FALSE NEIGHBOUR: 'it returns false'. Refute it at one input. -/
def centsBackWrong : ChangeSpec := { name := "centsBack", fn := fun _ => fun
  | [d1, d2] => { results := [.lit (.bool false)], args := [d1, d2] }
  | _ => none }
def CentsBackWrongFalsely : Prop := centsBackRow.holds Try.pinned (OpenSpec.ofChange centsBackWrong)

/-- 'trivetlaw01.CentsTwo': WHATEVER THE INPUT: true; the input reads as it did. -/
def centsTwoSpec : ChangeSpec := { name := "centsTwo", fn := fun _ => fun
  | [d1, d2] => { results := [.lit (.bool true)], args := [d1, d2] }
  | _ => none }
def centsTwoRow : OpenClaim := { program := "ytdddiahgkpfikaa", sum := "e7aefa99cb91f4fd474aaf2d3f5278b53134171abfec6506f79310be76b314db", func := "trivet/trivetlaw01.CentsTwo", spec := "centsTwo", named := ["math/bits.divideError", "math/bits.overflowError"], apart := false }
def CentsTwoSaid : Prop := centsTwoRow.holds Try.pinned (OpenSpec.ofChange centsTwoSpec)

/-- ITS FALSE NEIGHBOUR: 'it returns false'. Refute it at one input. -/
def centsTwoWrong : ChangeSpec := { name := "centsTwo", fn := fun _ => fun
  | [d1, d2] => { results := [.lit (.bool false)], args := [d1, d2] }
  | _ => none }
def CentsTwoWrongFalsely : Prop := centsTwoRow.holds Try.pinned (OpenSpec.ofChange centsTwoWrong)

/-- 'trivetlaw01.CentsSums': WHATEVER THE INPUT: true; the input reads as it did. -/
def centsSumsSpec : ChangeSpec := { name := "centsSums", fn := fun _ => fun
  | [d] => { results := [.lit (.bool true)], args := [d] }
  | _ => none }
def centsSumsRow : OpenClaim := { program := "ytdddiahgkpfikaa", sum := "e7aefa99cb91f4fd474aaf2d3f5278b53134171abfec6506f79310be76b314db", func := "trivet/trivetlaw01.CentsSums", spec := "centsSums", inPlace := ["math/bits.Add64"], named := ["math/bits.divideError", "math/bits.overflowError"], apart := false }
def CentsSumsSaid : Prop := centsSumsRow.holds Try.pinned (OpenSpec.ofChange centsSumsSpec)

/-- ITS FALSE NEIGHBOUR: 'it returns false'. Refute it at one input. -/
def centsSumsWrong : ChangeSpec := { name := "centsSums", fn := fun _ => fun
  | [d] => { results := [.lit (.bool false)], args := [d] }
  | _ => none }
def CentsSumsWrongFalsely : Prop := centsSumsRow.holds Try.pinned (OpenSpec.ofChange centsSumsWrong)

/-- 'trivetlaw01.CentsStays': WHATEVER THE INPUT: true; the input reads as it did. -/
def centsStaysSpec : ChangeSpec := { name := "centsStays", fn := fun _ => fun
  | [d] => { results := [.lit (.bool true)], args := [d] }
  | _ => none }
def centsStaysRow : OpenClaim := { program := "ytdddiahgkpfikaa", sum := "e7aefa99cb91f4fd474aaf2d3f5278b53134171abfec6506f79310be76b314db", func := "trivet/trivetlaw01.CentsStays", spec := "centsStays", inPlace := ["math/bits.Add64"], named := ["math/bits.divideError", "math/bits.overflowError"], apart := false }
def CentsStaysSaid : Prop := centsStaysRow.holds Try.pinned (OpenSpec.ofChange centsStaysSpec)

/-- ITS FALSE NEIGHBOUR: 'it returns false'. Refute it at one input. -/
def centsStaysWrong : ChangeSpec := { name := "centsStays", fn := fun _ => fun
  | [d] => { results := [.lit (.bool false)], args := [d] }
  | _ => none }
def CentsStaysWrongFalsely : Prop := centsStaysRow.holds Try.pinned (OpenSpec.ofChange centsStaysWrong)

/-- 'trivetlaw01.CentsOrder': WHATEVER THE INPUT: true; the input reads as it did. -/
def centsOrderSpec : ChangeSpec := { name := "centsOrder", fn := fun _ => fun
  | [d1, d2] => { results := [.lit (.bool true)], args := [d1, d2] }
  | _ => none }
def centsOrderRow : OpenClaim := { program := "ytdddiahgkpfikaa", sum := "e7aefa99cb91f4fd474aaf2d3f5278b53134171abfec6506f79310be76b314db", func := "trivet/trivetlaw01.CentsOrder", spec := "centsOrder", inPlace := ["math/bits.Add64"], named := ["math/bits.divideError", "math/bits.overflowError"], apart := false }
def CentsOrderSaid : Prop := centsOrderRow.holds Try.pinned (OpenSpec.ofChange centsOrderSpec)

/-- ITS FALSE NEIGHBOUR: 'it returns false'. Refute it at one input. -/
def centsOrderWrong : ChangeSpec := { name := "centsOrder", fn := fun _ => fun
  | [d1, d2] => { results := [.lit (.bool false)], args := [d1, d2] }
  | _ => none }
def CentsOrderWrongFalsely : Prop := centsOrderRow.holds Try.pinned (OpenSpec.ofChange centsOrderWrong)

/- THE SECOND FORM. 'bulk': how many values and letters a reading holds, each counted each time it is reached (what is shared counts as often as it is met; a slice's spare places count too). A statement '..UptoSaid' is the law's where the arguments, and the package variables that the reading takes, are together of bulk at most 1048576: NARROWER than '..Said'. Prove '..Said' where nothing that the law and all that it calls make is longer than what came in: it says more and counts as full. Else prove '..UptoSaid'. A law counts once. -/
mutual
def uptoBulk {H : Type} : DataW H → Nat
  | .lit (.string bytes) => bytes.length + 1
  | .lit _ => 1
  | .nil => 1
  | .ptr d => uptoBulk d + 1
  | .slice elems spare => uptoBulkAll elems + uptoBulkAll spare + 1
  | .agg parts => uptoBulkAll parts + 1
  | .iface _ d => uptoBulk d + 1
  | .map entries => uptoBulkEntries entries + 1
  | .held _ => 1
def uptoBulkAll {H : Type} : List (DataW H) → Nat
  | [] => 0
  | d :: r => uptoBulk d + uptoBulkAll r
def uptoBulkEntries {H : Type} : List (Lit × DataW H) → Nat
  | [] => 0
  | x :: r => uptoBulkEntry x + uptoBulkEntries r
def uptoBulkEntry {H : Type} : Lit × DataW H → Nat
  | (.string bytes, d) => bytes.length + uptoBulk d + 1
  | (_, d) => uptoBulk d + 1
 end
def uptoSmall : (H : Type) → List (DataW H) → Bool := fun _ ds => decide (uptoBulkAll ds ≤ 1048576)
def OpenSpec.upto (s : _root_.Go.ChangeSpec) : _root_.Go.OpenSpec := { _root_.Go.OpenSpec.ofChange s with cond := some uptoSmall }

/-- 'trivetlaw01.CentsQuotients', WHERE WHAT IT READS IS OF BULK AT MOST 1048576: true; the input reads as it did. -/
def centsQuotientsUptoRow : OpenClaim := { program := "ytdddiahgkpfikaa", sum := "e7aefa99cb91f4fd474aaf2d3f5278b53134171abfec6506f79310be76b314db", func := "trivet/trivetlaw01.CentsQuotients", spec := "centsQuotients", named := ["math/bits.divideError", "math/bits.overflowError"], apart := false, narrowed := true }
def CentsQuotientsUptoSaid : Prop := centsQuotientsUptoRow.holds Try.pinned (OpenSpec.upto centsQuotientsSpec)

/-- 'trivetlaw01.CentsSigns', WHERE WHAT IT READS IS OF BULK AT MOST 1048576: true; the input reads as it did. -/
def centsSignsUptoRow : OpenClaim := { program := "ytdddiahgkpfikaa", sum := "e7aefa99cb91f4fd474aaf2d3f5278b53134171abfec6506f79310be76b314db", func := "trivet/trivetlaw01.CentsSigns", spec := "centsSigns", named := ["math/bits.divideError", "math/bits.overflowError"], apart := false, narrowed := true }
def CentsSignsUptoSaid : Prop := centsSignsUptoRow.holds Try.pinned (OpenSpec.upto centsSignsSpec)

/-- 'trivetlaw01.CentsWhole', WHERE WHAT IT READS IS OF BULK AT MOST 1048576: true; the input reads as it did. -/
def centsWholeUptoRow : OpenClaim := { program := "ytdddiahgkpfikaa", sum := "e7aefa99cb91f4fd474aaf2d3f5278b53134171abfec6506f79310be76b314db", func := "trivet/trivetlaw01.CentsWhole", spec := "centsWhole", named := ["math/bits.divideError", "math/bits.overflowError"], apart := false, narrowed := true }
def CentsWholeUptoSaid : Prop := centsWholeUptoRow.holds Try.pinned (OpenSpec.upto centsWholeSpec)

/-- 'trivetlaw01.CentsNear', WHERE WHAT IT READS IS OF BULK AT MOST 1048576: true; the input reads as it did. -/
def centsNearUptoRow : OpenClaim := { program := "ytdddiahgkpfikaa", sum := "e7aefa99cb91f4fd474aaf2d3f5278b53134171abfec6506f79310be76b314db", func := "trivet/trivetlaw01.CentsNear", spec := "centsNear", named := ["math/bits.divideError", "math/bits.overflowError"], apart := false, narrowed := true }
def CentsNearUptoSaid : Prop := centsNearUptoRow.holds Try.pinned (OpenSpec.upto centsNearSpec)

/-- 'trivetlaw01.CentsBack', WHERE WHAT IT READS IS OF BULK AT MOST 1048576: true; the input reads as it did. -/
def centsBackUptoRow : OpenClaim := { program := "ytdddiahgkpfikaa", sum := "e7aefa99cb91f4fd474aaf2d3f5278b53134171abfec6506f79310be76b314db", func := "trivet/trivetlaw01.CentsBack", spec := "centsBack", named := ["math/bits.divideError", "math/bits.overflowError"], apart := false, narrowed := true }
def CentsBackUptoSaid : Prop := centsBackUptoRow.holds Try.pinned (OpenSpec.upto centsBackSpec)

/-- 'trivetlaw01.CentsTwo', WHERE WHAT IT READS IS OF BULK AT MOST 1048576: true; the input reads as it did. -/
def centsTwoUptoRow : OpenClaim := { program := "ytdddiahgkpfikaa", sum := "e7aefa99cb91f4fd474aaf2d3f5278b53134171abfec6506f79310be76b314db", func := "trivet/trivetlaw01.CentsTwo", spec := "centsTwo", named := ["math/bits.divideError", "math/bits.overflowError"], apart := false, narrowed := true }
def CentsTwoUptoSaid : Prop := centsTwoUptoRow.holds Try.pinned (OpenSpec.upto centsTwoSpec)

/-- 'trivetlaw01.CentsSums', WHERE WHAT IT READS IS OF BULK AT MOST 1048576: true; the input reads as it did. -/
def centsSumsUptoRow : OpenClaim := { program := "ytdddiahgkpfikaa", sum := "e7aefa99cb91f4fd474aaf2d3f5278b53134171abfec6506f79310be76b314db", func := "trivet/trivetlaw01.CentsSums", spec := "centsSums", inPlace := ["math/bits.Add64"], named := ["math/bits.divideError", "math/bits.overflowError"], apart := false, narrowed := true }
def CentsSumsUptoSaid : Prop := centsSumsUptoRow.holds Try.pinned (OpenSpec.upto centsSumsSpec)

/-- 'trivetlaw01.CentsStays', WHERE WHAT IT READS IS OF BULK AT MOST 1048576: true; the input reads as it did. -/
def centsStaysUptoRow : OpenClaim := { program := "ytdddiahgkpfikaa", sum := "e7aefa99cb91f4fd474aaf2d3f5278b53134171abfec6506f79310be76b314db", func := "trivet/trivetlaw01.CentsStays", spec := "centsStays", inPlace := ["math/bits.Add64"], named := ["math/bits.divideError", "math/bits.overflowError"], apart := false, narrowed := true }
def CentsStaysUptoSaid : Prop := centsStaysUptoRow.holds Try.pinned (OpenSpec.upto centsStaysSpec)

/-- 'trivetlaw01.CentsOrder', WHERE WHAT IT READS IS OF BULK AT MOST 1048576: true; the input reads as it did. -/
def centsOrderUptoRow : OpenClaim := { program := "ytdddiahgkpfikaa", sum := "e7aefa99cb91f4fd474aaf2d3f5278b53134171abfec6506f79310be76b314db", func := "trivet/trivetlaw01.CentsOrder", spec := "centsOrder", inPlace := ["math/bits.Add64"], named := ["math/bits.divideError", "math/bits.overflowError"], apart := false, narrowed := true }
def CentsOrderUptoSaid : Prop := centsOrderUptoRow.holds Try.pinned (OpenSpec.upto centsOrderSpec)

end Rows
end Go.Proofs.Ytdddiahgkpfikaa
