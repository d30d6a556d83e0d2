/-
  'cellarage/cellaragelaw21.StoreNil' run whole by the kernel, its argument's 38 cells given by number: true; no condition.
-/
import Derived.Test.YtnboghpebjciaaaGreatDoorKit
namespace Go.Proofs.YtnboghpebjciaaaGreatDoor.storeNilRun
open Go
set_option maxRecDepth 100000

/-- THE RUN: by the kernel. -/
theorem runsR : Ev.showsR Kit.kx 1000000 3 [.agg (Ev.syms 38 0)] = true := by kernel_rfl
end Go.Proofs.YtnboghpebjciaaaGreatDoor.storeNilRun
