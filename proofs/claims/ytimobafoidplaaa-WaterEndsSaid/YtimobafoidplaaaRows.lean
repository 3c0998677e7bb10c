/-
  No cell of these rows narrows 'for every input' (looked for: loops, veiled, ifaces, maps, wideKeys, modest, calm, conditions, laid).
  DERIVED. THE GIVEN ROWS OF THIS SEAT. 7 by the template 'for every input the law returns true; each argument reads behind the call as it read before'; 0 by the template 'total and deterministic' (their statements: YtimobafoidplaaaTotals.lean).
  GIVEN WITH THE SEED: the statements are not yours to turn. If you find one false, say at which input.
  Laid BY PROGRAM, IN A SANDBOX (cutbox-rows.mjs): the forced cells as the released guide's own fill.sh prints them over the translation 4272788462a9c679… (all of the seat's roots in one cut). By AI agents, Wed Nov 11 2026. No macro, syntax, notation, axiom, sorry.
-/
import Derived.Test.YtimobafoidplaaaChecked
import GoSem.Claim
import GoSem.ClaimJoined
import GoSem.ClaimMapViews
import Derived.JoinedTies
import Derived.KernelRfl
namespace Go.Proofs.Ytimobafoidplaaa
/- THE CELL 'sum', in the pinned program and in every row, IS THE sha256 OF THE DUMP (.gsa) THAT YtimobafoidplaaaProg.lean LOADS. Nothing in Lean hashes anything: it is a label: what it is worth is what the hold of that sum in a sandbox is worth. -/
noncomputable def Try.pinned : Pinned := { name := "ytimobafoidplaaa", sum := "4272788462a9c679a660bf319bccc26a11f64f5f6ecd854cb34673460e4ebf76", checked := Try.checked }
namespace Rows
def none {H : Type} : Left H := { results := [], args := [] }

/-- 'trivetlaw13.WaterPays': WHATEVER THE INPUT: true; the input reads as it did. -/
def waterPaysSpec : ChangeSpec := { name := "waterPays", fn := fun _ => fun
  | [d1, d2, d3] => { results := [.lit (.bool true)], args := [d1, d2, d3] }
  | _ => none }
def waterPaysRow : OpenClaim := { program := "ytimobafoidplaaa", sum := "4272788462a9c679a660bf319bccc26a11f64f5f6ecd854cb34673460e4ebf76", func := "trivet/trivetlaw13.WaterPays", spec := "waterPays", named := ["math/bits.divideError", "math/bits.overflowError"], apart := false }
def WaterPaysSaid : Prop := waterPaysRow.holds Try.pinned (OpenSpec.ofChange waterPaysSpec)

/-- ITS FALSE NEIGHBOUR: 'it returns false'. Refute it at one input. -/
def waterPaysWrong : ChangeSpec := { name := "waterPays", fn := fun _ => fun
  | [d1, d2, d3] => { results := [.lit (.bool false)], args := [d1, d2, d3] }
  | _ => none }
def WaterPaysWrongFalsely : Prop := waterPaysRow.holds Try.pinned (OpenSpec.ofChange waterPaysWrong)

/-- 'trivetlaw13.WaterWhole': WHATEVER THE INPUT: true; the input reads as it did. -/
def waterWholeSpec : ChangeSpec := { name := "waterWhole", fn := fun _ => fun
  | [d1, d2, d3] => { results := [.lit (.bool true)], args := [d1, d2, d3] }
  | _ => none }
def waterWholeRow : OpenClaim := { program := "ytimobafoidplaaa", sum := "4272788462a9c679a660bf319bccc26a11f64f5f6ecd854cb34673460e4ebf76", func := "trivet/trivetlaw13.WaterWhole", spec := "waterWhole", named := ["math/bits.divideError", "math/bits.overflowError"], apart := false }
def WaterWholeSaid : Prop := waterWholeRow.holds Try.pinned (OpenSpec.ofChange waterWholeSpec)

/-- ITS FALSE NEIGHBOUR: 'it returns false'. Refute it at one input. -/
def waterWholeWrong : ChangeSpec := { name := "waterWhole", fn := fun _ => fun
  | [d1, d2, d3] => { results := [.lit (.bool false)], args := [d1, d2, d3] }
  | _ => none }
def WaterWholeWrongFalsely : Prop := waterWholeRow.holds Try.pinned (OpenSpec.ofChange waterWholeWrong)

/-- 'trivetlaw13.WaterTwice': WHATEVER THE INPUT: true; the input reads as it did. -/
def waterTwiceSpec : ChangeSpec := { name := "waterTwice", fn := fun _ => fun
  | [d1, d2, d3, d4] => { results := [.lit (.bool true)], args := [d1, d2, d3, d4] }
  | _ => none }
def waterTwiceRow : OpenClaim := { program := "ytimobafoidplaaa", sum := "4272788462a9c679a660bf319bccc26a11f64f5f6ecd854cb34673460e4ebf76", func := "trivet/trivetlaw13.WaterTwice", spec := "waterTwice", named := ["math/bits.divideError", "math/bits.overflowError"], apart := false }
def WaterTwiceSaid : Prop := waterTwiceRow.holds Try.pinned (OpenSpec.ofChange waterTwiceSpec)

/-- ITS FALSE NEIGHBOUR: 'it returns false'. Refute it at one input. -/
def waterTwiceWrong : ChangeSpec := { name := "waterTwice", fn := fun _ => fun
  | [d1, d2, d3, d4] => { results := [.lit (.bool false)], args := [d1, d2, d3, d4] }
  | _ => none }
def WaterTwiceWrongFalsely : Prop := waterTwiceRow.holds Try.pinned (OpenSpec.ofChange waterTwiceWrong)

/-- 'trivetlaw13.WaterInstalments': WHATEVER THE INPUT: true; the input reads as it did. -/
def waterInstalmentsSpec : ChangeSpec := { name := "waterInstalments", fn := fun _ => fun
  | [d] => { results := [.lit (.bool true)], args := [d] }
  | _ => none }
def waterInstalmentsRow : OpenClaim := { program := "ytimobafoidplaaa", sum := "4272788462a9c679a660bf319bccc26a11f64f5f6ecd854cb34673460e4ebf76", func := "trivet/trivetlaw13.WaterInstalments", spec := "waterInstalments", named := ["math/bits.divideError", "math/bits.overflowError"], apart := false }
def WaterInstalmentsSaid : Prop := waterInstalmentsRow.holds Try.pinned (OpenSpec.ofChange waterInstalmentsSpec)

/-- ITS FALSE NEIGHBOUR: 'it returns false'. Refute it at one input. -/
def waterInstalmentsWrong : ChangeSpec := { name := "waterInstalments", fn := fun _ => fun
  | [d] => { results := [.lit (.bool false)], args := [d] }
  | _ => none }
def WaterInstalmentsWrongFalsely : Prop := waterInstalmentsRow.holds Try.pinned (OpenSpec.ofChange waterInstalmentsWrong)

/-- 'trivetlaw13.WaterDone': WHATEVER THE INPUT: true; the input reads as it did. -/
def waterDoneSpec : ChangeSpec := { name := "waterDone", fn := fun _ => fun
  | [d1, d2, d3] => { results := [.lit (.bool true)], args := [d1, d2, d3] }
  | _ => none }
def waterDoneRow : OpenClaim := { program := "ytimobafoidplaaa", sum := "4272788462a9c679a660bf319bccc26a11f64f5f6ecd854cb34673460e4ebf76", func := "trivet/trivetlaw13.WaterDone", spec := "waterDone", named := ["math/bits.divideError", "math/bits.overflowError"], apart := false }
def WaterDoneSaid : Prop := waterDoneRow.holds Try.pinned (OpenSpec.ofChange waterDoneSpec)

/-- ITS FALSE NEIGHBOUR: 'it returns false'. Refute it at one input. -/
def waterDoneWrong : ChangeSpec := { name := "waterDone", fn := fun _ => fun
  | [d1, d2, d3] => { results := [.lit (.bool false)], args := [d1, d2, d3] }
  | _ => none }
def WaterDoneWrongFalsely : Prop := waterDoneRow.holds Try.pinned (OpenSpec.ofChange waterDoneWrong)

/-- 'trivetlaw13.WaterPayoff': WHATEVER THE INPUT: true; the input reads as it did. -/
def waterPayoffSpec : ChangeSpec := { name := "waterPayoff", fn := fun _ => fun
  | [d1, d2] => { results := [.lit (.bool true)], args := [d1, d2] }
  | _ => none }
def waterPayoffRow : OpenClaim := { program := "ytimobafoidplaaa", sum := "4272788462a9c679a660bf319bccc26a11f64f5f6ecd854cb34673460e4ebf76", func := "trivet/trivetlaw13.WaterPayoff", spec := "waterPayoff", named := ["math/bits.divideError", "math/bits.overflowError"], apart := false }
def WaterPayoffSaid : Prop := waterPayoffRow.holds Try.pinned (OpenSpec.ofChange waterPayoffSpec)

/-- ITS FALSE NEIGHBOUR: 'it returns false'. Refute it at one input. -/
def waterPayoffWrong : ChangeSpec := { name := "waterPayoff", fn := fun _ => fun
  | [d1, d2] => { results := [.lit (.bool false)], args := [d1, d2] }
  | _ => none }
def WaterPayoffWrongFalsely : Prop := waterPayoffRow.holds Try.pinned (OpenSpec.ofChange waterPayoffWrong)

/-- 'trivetlaw13.WaterEnds': WHATEVER THE INPUT: true; the input reads as it did. -/
def waterEndsSpec : ChangeSpec := { name := "waterEnds", fn := fun _ => fun
  | [d1, d2, d3] => { results := [.lit (.bool true)], args := [d1, d2, d3] }
  | _ => none }
def waterEndsRow : OpenClaim := { program := "ytimobafoidplaaa", sum := "4272788462a9c679a660bf319bccc26a11f64f5f6ecd854cb34673460e4ebf76", func := "trivet/trivetlaw13.WaterEnds", spec := "waterEnds", named := ["math/bits.divideError", "math/bits.overflowError"], apart := false }
def WaterEndsSaid : Prop := waterEndsRow.holds Try.pinned (OpenSpec.ofChange waterEndsSpec)

/-- ITS FALSE NEIGHBOUR: 'it returns false'. Refute it at one input. -/
def waterEndsWrong : ChangeSpec := { name := "waterEnds", fn := fun _ => fun
  | [d1, d2, d3] => { results := [.lit (.bool false)], args := [d1, d2, d3] }
  | _ => none }
def WaterEndsWrongFalsely : Prop := waterEndsRow.holds Try.pinned (OpenSpec.ofChange waterEndsWrong)

/- THE SECOND FORM. 'bulk': how many values and letters a reading holds, each counted each time it is reached (what is shared counts as often as it is met; a slice's spare places count too). A statement '..UptoSaid' is the law's where the arguments, and the package variables that the reading takes, are together of bulk at most 1048576: NARROWER than '..Said'. Prove '..Said' where nothing that the law and all that it calls make is longer than what came in: it says more and counts as full. Else prove '..UptoSaid'. A law counts once. -/
mutual
def uptoBulk {H : Type} : DataW H → Nat
  | .lit (.string bytes) => bytes.length + 1
  | .lit _ => 1
  | .nil => 1
  | .ptr d => uptoBulk d + 1
  | .slice elems spare => uptoBulkAll elems + uptoBulkAll spare + 1
  | .agg parts => uptoBulkAll parts + 1
  | .iface _ d => uptoBulk d + 1
  | .map entries => uptoBulkEntries entries + 1
  | .held _ => 1
def uptoBulkAll {H : Type} : List (DataW H) → Nat
  | [] => 0
  | d :: r => uptoBulk d + uptoBulkAll r
def uptoBulkEntries {H : Type} : List (Lit × DataW H) → Nat
  | [] => 0
  | x :: r => uptoBulkEntry x + uptoBulkEntries r
def uptoBulkEntry {H : Type} : Lit × DataW H → Nat
  | (.string bytes, d) => bytes.length + uptoBulk d + 1
  | (_, d) => uptoBulk d + 1
 end
def uptoSmall : (H : Type) → List (DataW H) → Bool := fun _ ds => decide (uptoBulkAll ds ≤ 1048576)
def OpenSpec.upto (s : _root_.Go.ChangeSpec) : _root_.Go.OpenSpec := { _root_.Go.OpenSpec.ofChange s with cond := some uptoSmall }

/-- 'trivetlaw13.WaterPays', WHERE WHAT IT READS IS OF BULK AT MOST 1048576: true; the input reads as it did. -/
def waterPaysUptoRow : OpenClaim := { program := "ytimobafoidplaaa", sum := "4272788462a9c679a660bf319bccc26a11f64f5f6ecd854cb34673460e4ebf76", func := "trivet/trivetlaw13.WaterPays", spec := "waterPays", named := ["math/bits.divideError", "math/bits.overflowError"], apart := false, narrowed := true }
def WaterPaysUptoSaid : Prop := waterPaysUptoRow.holds Try.pinned (OpenSpec.upto waterPaysSpec)

/-- 'trivetlaw13.WaterWhole', WHERE WHAT IT READS IS OF BULK AT MOST 1048576: true; the input reads as it did. -/
def waterWholeUptoRow : OpenClaim := { program := "ytimobafoidplaaa", sum := "4272788462a9c679a660bf319bccc26a11f64f5f6ecd854cb34673460e4ebf76", func := "trivet/trivetlaw13.WaterWhole", spec := "waterWhole", named := ["math/bits.divideError", "math/bits.overflowError"], apart := false, narrowed := true }
def WaterWholeUptoSaid : Prop := waterWholeUptoRow.holds Try.pinned (OpenSpec.upto waterWholeSpec)

/-- 'trivetlaw13.WaterTwice', WHERE WHAT IT READS IS OF BULK AT MOST 1048576: true; the input reads as it did. -/
def waterTwiceUptoRow : OpenClaim := { program := "ytimobafoidplaaa", sum := "4272788462a9c679a660bf319bccc26a11f64f5f6ecd854cb34673460e4ebf76", func := "trivet/trivetlaw13.WaterTwice", spec := "waterTwice", named := ["math/bits.divideError", "math/bits.overflowError"], apart := false, narrowed := true }
def WaterTwiceUptoSaid : Prop := waterTwiceUptoRow.holds Try.pinned (OpenSpec.upto waterTwiceSpec)

/-- 'trivetlaw13.WaterInstalments', WHERE WHAT IT READS IS OF BULK AT MOST 1048576: true; the input reads as it did. -/
def waterInstalmentsUptoRow : OpenClaim := { program := "ytimobafoidplaaa", sum := "4272788462a9c679a660bf319bccc26a11f64f5f6ecd854cb34673460e4ebf76", func := "trivet/trivetlaw13.WaterInstalments", spec := "waterInstalments", named := ["math/bits.divideError", "math/bits.overflowError"], apart := false, narrowed := true }
def WaterInstalmentsUptoSaid : Prop := waterInstalmentsUptoRow.holds Try.pinned (OpenSpec.upto waterInstalmentsSpec)

/-- 'trivetlaw13.WaterDone', WHERE WHAT IT READS IS OF BULK AT MOST 1048576: true; the input reads as it did. -/
def waterDoneUptoRow : OpenClaim := { program := "ytimobafoidplaaa", sum := "4272788462a9c679a660bf319bccc26a11f64f5f6ecd854cb34673460e4ebf76", func := "trivet/trivetlaw13.WaterDone", spec := "waterDone", named := ["math/bits.divideError", "math/bits.overflowError"], apart := false, narrowed := true }
def WaterDoneUptoSaid : Prop := waterDoneUptoRow.holds Try.pinned (OpenSpec.upto waterDoneSpec)

/-- 'trivetlaw13.WaterPayoff', WHERE WHAT IT READS IS OF BULK AT MOST 1048576: true; the input reads as it did. -/
def waterPayoffUptoRow : OpenClaim := { program := "ytimobafoidplaaa", sum := "4272788462a9c679a660bf319bccc26a11f64f5f6ecd854cb34673460e4ebf76", func := "trivet/trivetlaw13.WaterPayoff", spec := "waterPayoff", named := ["math/bits.divideError", "math/bits.overflowError"], apart := false, narrowed := true }
def WaterPayoffUptoSaid : Prop := waterPayoffUptoRow.holds Try.pinned (OpenSpec.upto waterPayoffSpec)

/-- 'trivetlaw13.WaterEnds', WHERE WHAT IT READS IS OF BULK AT MOST 1048576: true; the input reads as it did. -/
def waterEndsUptoRow : OpenClaim := { program := "ytimobafoidplaaa", sum := "4272788462a9c679a660bf319bccc26a11f64f5f6ecd854cb34673460e4ebf76", func := "trivet/trivetlaw13.WaterEnds", spec := "waterEnds", named := ["math/bits.divideError", "math/bits.overflowError"], apart := false, narrowed := true }
def WaterEndsUptoSaid : Prop := waterEndsUptoRow.holds Try.pinned (OpenSpec.upto waterEndsSpec)

end Rows
end Go.Proofs.Ytimobafoidplaaa
