/-
  No cell of these rows narrows 'for every input' (looked for: loops, veiled, ifaces, maps, wideKeys, modest, calm, conditions, laid).
  DERIVED. THE GIVEN ROWS OF THIS SEAT. 6 by the template 'for every input the law returns true; each argument reads behind the call as it read before'; 0 by the template 'total and deterministic' (their statements: YtmkfbaoglmmhjaaTotals.lean).
  GIVEN WITH THE SEED: the statements are not yours to turn. If you find one false, say at which input.
  Laid BY PROGRAM, IN A SANDBOX (cutbox-rows.mjs): the forced cells as the released guide's own fill.sh prints them over the translation 541f0c4190a007da… (all of the seat's roots in one cut). By AI agents, Wed Nov 11 2026. No macro, syntax, notation, axiom, sorry.
-/
import Derived.Test.YtmkfbaoglmmhjaaChecked
import GoSem.Claim
import GoSem.ClaimJoined
import GoSem.ClaimMapViews
import Derived.JoinedTies
import Derived.KernelRfl
namespace Go.Proofs.Ytmkfbaoglmmhjaa
/- THE CELL 'sum', in the pinned program and in every row, IS THE sha256 OF THE DUMP (.gsa) THAT YtmkfbaoglmmhjaaProg.lean LOADS. Nothing in Lean hashes anything: it is a label: what it is worth is what the hold of that sum in a sandbox is worth. -/
noncomputable def Try.pinned : Pinned := { name := "ytmkfbaoglmmhjaa", sum := "541f0c4190a007daad72e740c13c4aca867fe86ef9f7cd15d9552d549d19a752", checked := Try.checked }
namespace Rows
def none {H : Type} : Left H := { results := [], args := [] }

/-- 'trivetlaw14.CalendarMonths': WHATEVER THE INPUT: true; the input reads as it did. -/
def calendarMonthsSpec : ChangeSpec := { name := "calendarMonths", fn := fun _ => fun
  | [d1, d2] => { results := [.lit (.bool true)], args := [d1, d2] }
  | _ => none }
def calendarMonthsRow : OpenClaim := { program := "ytmkfbaoglmmhjaa", sum := "541f0c4190a007daad72e740c13c4aca867fe86ef9f7cd15d9552d549d19a752", func := "trivet/trivetlaw14.CalendarMonths", spec := "calendarMonths", unfollowed := true, recurses := true, apart := false }
def CalendarMonthsSaid : Prop := calendarMonthsRow.holds Try.pinned (OpenSpec.ofChange calendarMonthsSpec)

/-- ITS FALSE NEIGHBOUR: 'it returns false'. Refute it at one input. -/
def calendarMonthsWrong : ChangeSpec := { name := "calendarMonths", fn := fun _ => fun
  | [d1, d2] => { results := [.lit (.bool false)], args := [d1, d2] }
  | _ => none }
def CalendarMonthsWrongFalsely : Prop := calendarMonthsRow.holds Try.pinned (OpenSpec.ofChange calendarMonthsWrong)

/-- 'trivetlaw14.CalendarOuts': WHATEVER THE INPUT: true; the input reads as it did. -/
def calendarOutsSpec : ChangeSpec := { name := "calendarOuts", fn := fun _ => fun
  | [d1, d2, d3] => { results := [.lit (.bool true)], args := [d1, d2, d3] }
  | _ => none }
def calendarOutsRow : OpenClaim := { program := "ytmkfbaoglmmhjaa", sum := "541f0c4190a007daad72e740c13c4aca867fe86ef9f7cd15d9552d549d19a752", func := "trivet/trivetlaw14.CalendarOuts", spec := "calendarOuts", unfollowed := true, recurses := true, apart := false }
def CalendarOutsSaid : Prop := calendarOutsRow.holds Try.pinned (OpenSpec.ofChange calendarOutsSpec)

/-- ITS FALSE NEIGHBOUR: 'it returns false'. Refute it at one input. -/
def calendarOutsWrong : ChangeSpec := { name := "calendarOuts", fn := fun _ => fun
  | [d1, d2, d3] => { results := [.lit (.bool false)], args := [d1, d2, d3] }
  | _ => none }
def CalendarOutsWrongFalsely : Prop := calendarOutsRow.holds Try.pinned (OpenSpec.ofChange calendarOutsWrong)

/-- 'trivetlaw14.CalendarYears': WHATEVER THE INPUT: true; the input reads as it did. -/
def calendarYearsSpec : ChangeSpec := { name := "calendarYears", fn := fun _ => fun
  | [d1, d2] => { results := [.lit (.bool true)], args := [d1, d2] }
  | _ => none }
def calendarYearsRow : OpenClaim := { program := "ytmkfbaoglmmhjaa", sum := "541f0c4190a007daad72e740c13c4aca867fe86ef9f7cd15d9552d549d19a752", func := "trivet/trivetlaw14.CalendarYears", spec := "calendarYears", unfollowed := true, recurses := true, apart := false }
def CalendarYearsSaid : Prop := calendarYearsRow.holds Try.pinned (OpenSpec.ofChange calendarYearsSpec)

/-- ITS FALSE NEIGHBOUR: 'it returns false'. Refute it at one input. -/
def calendarYearsWrong : ChangeSpec := { name := "calendarYears", fn := fun _ => fun
  | [d1, d2] => { results := [.lit (.bool false)], args := [d1, d2] }
  | _ => none }
def CalendarYearsWrongFalsely : Prop := calendarYearsRow.holds Try.pinned (OpenSpec.ofChange calendarYearsWrong)

/-- 'trivetlaw14.CalendarStays': WHATEVER THE INPUT: true; the input reads as it did. -/
def calendarStaysSpec : ChangeSpec := { name := "calendarStays", fn := fun _ => fun
  | [d1, d2, d3] => { results := [.lit (.bool true)], args := [d1, d2, d3] }
  | _ => none }
def calendarStaysRow : OpenClaim := { program := "ytmkfbaoglmmhjaa", sum := "541f0c4190a007daad72e740c13c4aca867fe86ef9f7cd15d9552d549d19a752", func := "trivet/trivetlaw14.CalendarStays", spec := "calendarStays", unfollowed := true, recurses := true, apart := false }
def CalendarStaysSaid : Prop := calendarStaysRow.holds Try.pinned (OpenSpec.ofChange calendarStaysSpec)

/-- ITS FALSE NEIGHBOUR: 'it returns false'. Refute it at one input. -/
def calendarStaysWrong : ChangeSpec := { name := "calendarStays", fn := fun _ => fun
  | [d1, d2, d3] => { results := [.lit (.bool false)], args := [d1, d2, d3] }
  | _ => none }
def CalendarStaysWrongFalsely : Prop := calendarStaysRow.holds Try.pinned (OpenSpec.ofChange calendarStaysWrong)

/-- 'trivetlaw14.CalendarParts': WHATEVER THE INPUT: true; the input reads as it did. -/
def calendarPartsSpec : ChangeSpec := { name := "calendarParts", fn := fun _ => fun
  | [d1, d2, d3, d4] => { results := [.lit (.bool true)], args := [d1, d2, d3, d4] }
  | _ => none }
def calendarPartsRow : OpenClaim := { program := "ytmkfbaoglmmhjaa", sum := "541f0c4190a007daad72e740c13c4aca867fe86ef9f7cd15d9552d549d19a752", func := "trivet/trivetlaw14.CalendarParts", spec := "calendarParts", unfollowed := true, recurses := true, apart := false }
def CalendarPartsSaid : Prop := calendarPartsRow.holds Try.pinned (OpenSpec.ofChange calendarPartsSpec)

/-- ITS FALSE NEIGHBOUR: 'it returns false'. Refute it at one input. -/
def calendarPartsWrong : ChangeSpec := { name := "calendarParts", fn := fun _ => fun
  | [d1, d2, d3, d4] => { results := [.lit (.bool false)], args := [d1, d2, d3, d4] }
  | _ => none }
def CalendarPartsWrongFalsely : Prop := calendarPartsRow.holds Try.pinned (OpenSpec.ofChange calendarPartsWrong)

/-- 'trivetlaw14.CalendarOnce': WHATEVER THE INPUT: true; the input reads as it did. -/
def calendarOnceSpec : ChangeSpec := { name := "calendarOnce", fn := fun _ => fun
  | [d1, d2] => { results := [.lit (.bool true)], args := [d1, d2] }
  | _ => none }
def calendarOnceRow : OpenClaim := { program := "ytmkfbaoglmmhjaa", sum := "541f0c4190a007daad72e740c13c4aca867fe86ef9f7cd15d9552d549d19a752", func := "trivet/trivetlaw14.CalendarOnce", spec := "calendarOnce", unfollowed := true, recurses := true, apart := false }
def CalendarOnceSaid : Prop := calendarOnceRow.holds Try.pinned (OpenSpec.ofChange calendarOnceSpec)

/-- ITS FALSE NEIGHBOUR: 'it returns false'. Refute it at one input. -/
def calendarOnceWrong : ChangeSpec := { name := "calendarOnce", fn := fun _ => fun
  | [d1, d2] => { results := [.lit (.bool false)], args := [d1, d2] }
  | _ => none }
def CalendarOnceWrongFalsely : Prop := calendarOnceRow.holds Try.pinned (OpenSpec.ofChange calendarOnceWrong)

/- THE SECOND FORM. 'bulk': how many values and letters a reading holds, each counted each time it is reached (what is shared counts as often as it is met; a slice's spare places count too). A statement '..UptoSaid' is the law's where the arguments, and the package variables that the reading takes, are together of bulk at most 1048576: NARROWER than '..Said'. Prove '..Said' where nothing that the law and all that it calls make is longer than what came in: it says more and counts as full. Else prove '..UptoSaid'. A law counts once. -/
mutual
def uptoBulk {H : Type} : DataW H → Nat
  | .lit (.string bytes) => bytes.length + 1
  | .lit _ => 1
  | .nil => 1
  | .ptr d => uptoBulk d + 1
  | .slice elems spare => uptoBulkAll elems + uptoBulkAll spare + 1
  | .agg parts => uptoBulkAll parts + 1
  | .iface _ d => uptoBulk d + 1
  | .map entries => uptoBulkEntries entries + 1
  | .held _ => 1
def uptoBulkAll {H : Type} : List (DataW H) → Nat
  | [] => 0
  | d :: r => uptoBulk d + uptoBulkAll r
def uptoBulkEntries {H : Type} : List (Lit × DataW H) → Nat
  | [] => 0
  | x :: r => uptoBulkEntry x + uptoBulkEntries r
def uptoBulkEntry {H : Type} : Lit × DataW H → Nat
  | (.string bytes, d) => bytes.length + uptoBulk d + 1
  | (_, d) => uptoBulk d + 1
 end
def uptoSmall : (H : Type) → List (DataW H) → Bool := fun _ ds => decide (uptoBulkAll ds ≤ 1048576)
def OpenSpec.upto (s : _root_.Go.ChangeSpec) : _root_.Go.OpenSpec := { _root_.Go.OpenSpec.ofChange s with cond := some uptoSmall }

/-- 'trivetlaw14.CalendarMonths', WHERE WHAT IT READS IS OF BULK AT MOST 1048576: true; the input reads as it did. -/
def calendarMonthsUptoRow : OpenClaim := { program := "ytmkfbaoglmmhjaa", sum := "541f0c4190a007daad72e740c13c4aca867fe86ef9f7cd15d9552d549d19a752", func := "trivet/trivetlaw14.CalendarMonths", spec := "calendarMonths", unfollowed := true, recurses := true, apart := false, narrowed := true }
def CalendarMonthsUptoSaid : Prop := calendarMonthsUptoRow.holds Try.pinned (OpenSpec.upto calendarMonthsSpec)

/-- 'trivetlaw14.CalendarOuts', WHERE WHAT IT READS IS OF BULK AT MOST 1048576: true; the input reads as it did. -/
def calendarOutsUptoRow : OpenClaim := { program := "ytmkfbaoglmmhjaa", sum := "541f0c4190a007daad72e740c13c4aca867fe86ef9f7cd15d9552d549d19a752", func := "trivet/trivetlaw14.CalendarOuts", spec := "calendarOuts", unfollowed := true, recurses := true, apart := false, narrowed := true }
def CalendarOutsUptoSaid : Prop := calendarOutsUptoRow.holds Try.pinned (OpenSpec.upto calendarOutsSpec)

/-- 'trivetlaw14.CalendarYears', WHERE WHAT IT READS IS OF BULK AT MOST 1048576: true; the input reads as it did. -/
def calendarYearsUptoRow : OpenClaim := { program := "ytmkfbaoglmmhjaa", sum := "541f0c4190a007daad72e740c13c4aca867fe86ef9f7cd15d9552d549d19a752", func := "trivet/trivetlaw14.CalendarYears", spec := "calendarYears", unfollowed := true, recurses := true, apart := false, narrowed := true }
def CalendarYearsUptoSaid : Prop := calendarYearsUptoRow.holds Try.pinned (OpenSpec.upto calendarYearsSpec)

/-- 'trivetlaw14.CalendarStays', WHERE WHAT IT READS IS OF BULK AT MOST 1048576: true; the input reads as it did. -/
def calendarStaysUptoRow : OpenClaim := { program := "ytmkfbaoglmmhjaa", sum := "541f0c4190a007daad72e740c13c4aca867fe86ef9f7cd15d9552d549d19a752", func := "trivet/trivetlaw14.CalendarStays", spec := "calendarStays", unfollowed := true, recurses := true, apart := false, narrowed := true }
def CalendarStaysUptoSaid : Prop := calendarStaysUptoRow.holds Try.pinned (OpenSpec.upto calendarStaysSpec)

/-- 'trivetlaw14.CalendarParts', WHERE WHAT IT READS IS OF BULK AT MOST 1048576: true; the input reads as it did. -/
def calendarPartsUptoRow : OpenClaim := { program := "ytmkfbaoglmmhjaa", sum := "541f0c4190a007daad72e740c13c4aca867fe86ef9f7cd15d9552d549d19a752", func := "trivet/trivetlaw14.CalendarParts", spec := "calendarParts", unfollowed := true, recurses := true, apart := false, narrowed := true }
def CalendarPartsUptoSaid : Prop := calendarPartsUptoRow.holds Try.pinned (OpenSpec.upto calendarPartsSpec)

/-- 'trivetlaw14.CalendarOnce', WHERE WHAT IT READS IS OF BULK AT MOST 1048576: true; the input reads as it did. -/
def calendarOnceUptoRow : OpenClaim := { program := "ytmkfbaoglmmhjaa", sum := "541f0c4190a007daad72e740c13c4aca867fe86ef9f7cd15d9552d549d19a752", func := "trivet/trivetlaw14.CalendarOnce", spec := "calendarOnce", unfollowed := true, recurses := true, apart := false, narrowed := true }
def CalendarOnceUptoSaid : Prop := calendarOnceUptoRow.holds Try.pinned (OpenSpec.upto calendarOnceSpec)

end Rows
end Go.Proofs.Ytmkfbaoglmmhjaa
