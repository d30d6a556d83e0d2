/-
  DERIVED. GIVEN WITH THE SEED: THE CARDS: each row of YtnboghpebjciaaaGreatDoorRows.lean that lists a variable, with what it lists TIED to the program's text (the seventh form; the later family's looks); each row that meets fmt, with fmt's text TOLD by the authors' own Lean function (tested against real Go, not proved from fmt's source: count such statements apart). THE CARD IS WHAT COUNTS. Prove the row's statement (the work); the ties are given (YtnboghpebjciaaaGreatDoorTie.lean); close each card by the builder's one call (the guide's Derived/Test/ToyasCard.lean, 'card_holds'). Laid BY PROGRAM, IN A SANDBOX (cutbox-door.mjs). By AI agents, Wed Nov 11 2026. No macro, syntax, notation, axiom, sorry.
-/
import Derived.Test.YtnboghpebjciaaaGreatDoorRows
import GoSem.ClaimSeven
namespace Go.Proofs.YtnboghpebjciaaaGreatDoor
namespace Rows

/-- THE TIED CARD OF 'cellaragelaw21.StoreNil'. -/
def storeNilCard : Claim7 := { stood := { row := storeNilRow, standIns := [], harness := (true, "eeae9675682bb6bf51c6fa6ef164db8d7265da5b210cf2a185655eeef6af2f3f"), looks := false }, kinds := [], alts := [], laidByText := true, laidKinds := [.data], laidTests := true, laidLooks := .later }
def StoreNilCardSaid : Prop := Claim7.holds Tryz.pinned (.plain (OpenSpec.ofChange storeNilSpec)) storeNilCard

/-- THE TIED CARD OF 'cellaragelaw22.SweepNil'. -/
def sweepNilCard : Claim7 := { stood := { row := sweepNilRow, standIns := [], harness := (true, "eeae9675682bb6bf51c6fa6ef164db8d7265da5b210cf2a185655eeef6af2f3f"), looks := false }, kinds := [], alts := [], laidByText := true, laidKinds := [.data], laidTests := true, laidLooks := .later }
def SweepNilCardSaid : Prop := Claim7.holds Tryz.pinned (.plain (OpenSpec.ofChange sweepNilSpec)) sweepNilCard

/-- THE SECOND FORM's CARD OF 'cellaragelaw21.StoreNil'. -/
def storeNilUptoCard : Claim7 := { stood := { row := storeNilUptoRow, standIns := [], harness := (true, "eeae9675682bb6bf51c6fa6ef164db8d7265da5b210cf2a185655eeef6af2f3f"), looks := false }, kinds := [], alts := [], laidByText := true, laidKinds := [.data], laidTests := true, laidLooks := .later }
def StoreNilUptoCardSaid : Prop := Claim7.holds Tryz.pinned (.plain (OpenSpec.upto storeNilSpec)) storeNilUptoCard

/-- THE SECOND FORM's CARD OF 'cellaragelaw22.SweepNil'. -/
def sweepNilUptoCard : Claim7 := { stood := { row := sweepNilUptoRow, standIns := [], harness := (true, "eeae9675682bb6bf51c6fa6ef164db8d7265da5b210cf2a185655eeef6af2f3f"), looks := false }, kinds := [], alts := [], laidByText := true, laidKinds := [.data], laidTests := true, laidLooks := .later }
def SweepNilUptoCardSaid : Prop := Claim7.holds Tryz.pinned (.plain (OpenSpec.upto sweepNilSpec)) sweepNilUptoCard
end Rows
end Go.Proofs.YtnboghpebjciaaaGreatDoor
