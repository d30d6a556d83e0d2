/-
  'cellarage/cellaragelaw22.SweepNil' run whole by the kernel, its argument's 33 cells given by number: true; no condition.
-/
import Derived.Test.YtnboghpebjciaaaGreatDoorKit
namespace Go.Proofs.YtnboghpebjciaaaGreatDoor.sweepNilRun
open Go
set_option maxRecDepth 100000

/-- THE RUN: by the kernel. -/
theorem runsR : Ev.showsR Kit.kx 1000000 4 [.agg (Ev.syms 33 0)] = true := by kernel_rfl
end Go.Proofs.YtnboghpebjciaaaGreatDoor.sweepNilRun
