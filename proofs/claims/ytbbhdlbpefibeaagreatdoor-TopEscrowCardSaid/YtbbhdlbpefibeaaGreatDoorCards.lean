/-
  DERIVED. GIVEN WITH THE SEED: THE CARDS: each row of YtbbhdlbpefibeaaGreatDoorRows.lean that lists a variable, with what it lists TIED to the program's text (the seventh form; the later family's looks); each row that meets fmt, with fmt's text TOLD by the authors' own Lean function (tested against real Go, not proved from fmt's source: count such statements apart). THE CARD IS WHAT COUNTS. Prove the row's statement (the work); the ties are given (YtbbhdlbpefibeaaGreatDoorTie.lean); close each card by the builder's one call (the guide's Derived/Test/ToyasCard.lean, 'card_holds'). Laid BY PROGRAM, IN A SANDBOX (cutbox-door.mjs). By AI agents, Wed Nov 11 2026. No macro, syntax, notation, axiom, sorry.
-/
import Derived.Test.YtbbhdlbpefibeaaGreatDoorRows
import GoSem.ClaimSeven
namespace Go.Proofs.YtbbhdlbpefibeaaGreatDoor
namespace Rows

/-- THE TIED CARD OF 'trivettop.TopEscrow'. -/
def topEscrowCard : Claim7 := { stood := { row := topEscrowRow, standIns := [], harness := (true, "ccc7093b743c0fe17f0587905c32dd2b9f436b2289acb997c1602294a89a80e4"), looks := true }, kinds := [], alts := [], laidByText := true, laidKinds := [.handle], laidTests := true, laidLooks := .later }
def TopEscrowCardSaid : Prop := Claim7.holds Tryz.pinned (.plain (OpenSpec.ofChange topEscrowSpec)) topEscrowCard

/-- THE TIED CARD OF 'trivettop.TopTotal'. -/
def topTotalCard : Claim7 := { stood := { row := topTotalRow, standIns := [], harness := (true, "ccc7093b743c0fe17f0587905c32dd2b9f436b2289acb997c1602294a89a80e4"), looks := true }, kinds := [], alts := [], laidByText := true, laidKinds := [.handle], laidTests := true, laidLooks := .later }
def TopTotalCardSaid : Prop := Claim7.holds Tryz.pinned (.plain (OpenSpec.ofChange topTotalSpec)) topTotalCard

/-- THE TIED CARD OF 'trivettop.TopPaid'. -/
def topPaidCard : Claim7 := { stood := { row := topPaidRow, standIns := [], harness := (true, "ccc7093b743c0fe17f0587905c32dd2b9f436b2289acb997c1602294a89a80e4"), looks := true }, kinds := [], alts := [], laidByText := true, laidKinds := [.handle], laidTests := true, laidLooks := .later }
def TopPaidCardSaid : Prop := Claim7.holds Tryz.pinned (.plain (OpenSpec.ofChange topPaidSpec)) topPaidCard

/-- THE SECOND FORM's CARD OF 'trivettop.TopEscrow'. -/
def topEscrowUptoCard : Claim7 := { stood := { row := topEscrowUptoRow, standIns := [], harness := (true, "ccc7093b743c0fe17f0587905c32dd2b9f436b2289acb997c1602294a89a80e4"), looks := true }, kinds := [], alts := [], laidByText := true, laidKinds := [.handle], laidTests := true, laidLooks := .later }
def TopEscrowUptoCardSaid : Prop := Claim7.holds Tryz.pinned (.plain (OpenSpec.upto topEscrowSpec)) topEscrowUptoCard

/-- THE SECOND FORM's CARD OF 'trivettop.TopTotal'. -/
def topTotalUptoCard : Claim7 := { stood := { row := topTotalUptoRow, standIns := [], harness := (true, "ccc7093b743c0fe17f0587905c32dd2b9f436b2289acb997c1602294a89a80e4"), looks := true }, kinds := [], alts := [], laidByText := true, laidKinds := [.handle], laidTests := true, laidLooks := .later }
def TopTotalUptoCardSaid : Prop := Claim7.holds Tryz.pinned (.plain (OpenSpec.upto topTotalSpec)) topTotalUptoCard

/-- THE SECOND FORM's CARD OF 'trivettop.TopPaid'. -/
def topPaidUptoCard : Claim7 := { stood := { row := topPaidUptoRow, standIns := [], harness := (true, "ccc7093b743c0fe17f0587905c32dd2b9f436b2289acb997c1602294a89a80e4"), looks := true }, kinds := [], alts := [], laidByText := true, laidKinds := [.handle], laidTests := true, laidLooks := .later }
def TopPaidUptoCardSaid : Prop := Claim7.holds Tryz.pinned (.plain (OpenSpec.upto topPaidSpec)) topPaidUptoCard
end Rows
end Go.Proofs.YtbbhdlbpefibeaaGreatDoor
