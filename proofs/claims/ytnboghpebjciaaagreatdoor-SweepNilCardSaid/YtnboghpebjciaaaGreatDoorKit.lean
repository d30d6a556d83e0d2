/-
  What the evaluator is told of this seat's program (its one listed table; which function without a body it knows; whose outcomes it makes one), and that this is so; condition: the table is laid.
-/
import Derived.Test.YtnboghpebjciaaaGreatDoorCards
import Derived.Test.YtnboghpebjciaaaGreatDoorEvE
import Derived.Lib.LaidTab
import Derived.ChangeShapes
import Derived.KernelRfl
namespace Go.Proofs.YtnboghpebjciaaaGreatDoor.Kit
open Go
set_option maxRecDepth 100000

theorem own : ownKnob Tryz.prog.godebug = none := by kernel_rfl
theorem laidOut : laidOutB Tryz.prog = true := by kernel_rfl
theorem mixes : Tryz.prog.follows .mixedOrders = true := by kernel_rfl
theorem gTab : Tryz.prog.globalNamed "math/bits.deBruijn64tab" = some 0 := by kernel_rfl
theorem gTabType : (Tryz.prog.globals[0]?).map (·.type) = some 177 := by kernel_rfl
theorem cellsT : Tryz.prog.cellsOf 177 = 64 := by kernel_rfl
theorem cellsE : Tryz.prog.cellsOf 5 = 1 := by kernel_rfl
def zs : List Int := [0, 1, 56, 2, 57, 49, 28, 3, 61, 58, 42, 50, 38, 29, 17, 4, 62, 47, 59, 36, 45, 43, 51, 22, 53, 39, 33, 30, 24, 18, 12, 5, 63, 55, 48, 27, 60, 41, 37, 16, 46, 35, 44, 21, 52, 32, 23, 11, 54, 26, 40, 15, 34, 20, 31, 10, 25, 14, 19, 9, 13, 8, 7, 6]
theorem table {W : World} (h : laidMetH Tryz.prog Rows.storeNilRow.laid W) : Lib.TabIs Tryz.prog W "math/bits.deBruijn64tab" .u8 zs :=
  Lib.tabIs_of_head (rest := []) gTab gTabType Tryz.underlying177 Tryz.underlying5 cellsE cellsT h

def kxGl : Nat → Option (List Ev.V)
  | 0 => some (zs.map (Ev.V.int .u8))
  | _ => none
def kxEx : FuncId → Option Ev.Ext
  | 170 => some .compare
  | _ => none
def kxMg : FuncId → Bool
  | 96 => true
  | 97 => true
  | _ => false
noncomputable def k0 : Ev.K := { p := Tryz.prog, gl := kxGl, ex := kxEx, mg := kxMg }
noncomputable def kxOrc (f : FuncId) (args : List Ev.V) (h : Ev.H) : Option (List Ev.E) :=
  Bool.rec (Bool.rec none (Ev.orcNat [.u32, .u32, .u32, .u32, .u32, .u32] Ev.quarterG args h) (Nat.beq f 137)) (Ev.orcNat [.u8] Ev.crcG args h) (Nat.beq f 158)
/-- The order in which function 6's great drawn regions are gone through. -/
def pl6 (id : Nat) : Option (List Ev.PI) :=
  bif Nat.beq id 8 then some [.q 0, .q 1, .q 2, .q 3, .q 4, .q 5, .q 8, .l 6 [], .q 7] else bif Nat.beq id 19 then some [.q 0, .q 1, .q 2, .l 3 [], .q 4, .l 5 [], .q 6] else none
/-- The order in which function 8's great drawn regions are gone through. -/
def pl8 (id : Nat) : Option (List Ev.PI) :=
  bif Nat.beq id 1 then some [.q 0, .q 1, .q 2, .q 3, .q 4, .q 6, .q 7, .q 8, .q 9, .l 5 [], .l 10 [], .l 11 [], .q 12, .q 13, .q 14, .q 15, .q 16, .l 17 []] else none
/-- The order in which function 11's great drawn regions are gone through. -/
def pl11 (id : Nat) : Option (List Ev.PI) :=
  bif Nat.beq id 22 then some [.q 0, .q 1, .q 2, .q 3, .q 4, .q 5, .q 6, .q 7, .q 8, .l 9 [13], .q 10, .q 11, .q 12, .l 13 [], .l 14 [], .q 15] else bif Nat.beq id 24 then some [.q 0, .q 1, .q 2, .q 3, .q 4, .q 5, .q 6, .q 7, .q 8, .l 9 []] else none
/-- The order in which function 12's great drawn regions are gone through. -/
def pl12 (id : Nat) : Option (List Ev.PI) :=
  bif Nat.beq id 5 then some [.q 0, .q 1, .q 2, .q 3, .q 4, .q 5, .q 6, .q 7, .q 8, .l 9 [], .q 10, .q 11, .q 12, .q 13, .q 14] else bif Nat.beq id 8 then some [.q 0, .q 1, .q 2, .q 3, .q 4, .q 5, .q 6, .q 7, .q 8, .l 9 [], .q 10] else none
/-- The order in which function 13's great drawn regions are gone through. -/
def pl13 (id : Nat) : Option (List Ev.PI) :=
  bif Nat.beq id 3 then some [.q 0, .q 1, .q 2, .q 3, .q 5, .q 6, .q 7, .q 8, .l 4 [], .l 9 [], .l 10 [], .q 11, .q 12, .q 13, .q 14, .q 15] else none
/-- The order in which function 17's great drawn regions are gone through. -/
def pl17 (id : Nat) : Option (List Ev.PI) :=
  bif Nat.beq id 3 then some [.q 0, .q 1, .q 2, .q 3, .q 4, .q 5, .q 6, .q 7, .l 8 [12], .q 9, .q 10, .q 11, .l 12 [], .l 13 [], .q 14] else none
/-- The order in which function 18's great drawn regions are gone through. -/
def pl18 (id : Nat) : Option (List Ev.PI) :=
  bif Nat.beq id 6 then some [.q 0, .q 1, .q 2, .q 3, .q 4, .q 5, .l 6 []] else none
/-- The order in which function 21's great drawn regions are gone through. -/
def pl21 (id : Nat) : Option (List Ev.PI) :=
  bif Nat.beq id 2 then some [.q 0, .q 1, .q 2, .q 3, .q 4, .q 5, .q 6, .q 7, .q 8, .l 9 [], .l 10 []] else none
/-- The order in which function 23's great drawn regions are gone through. -/
def pl23 (id : Nat) : Option (List Ev.PI) :=
  bif Nat.beq id 1 then some [.q 0, .q 1, .q 2, .q 3, .q 4, .q 5, .q 6, .q 7, .q 8, .q 9, .q 10, .q 11, .l 12 [], .l 13 [], .q 14, .q 15] else none
/-- The order in which function 24's great drawn regions are gone through. -/
def pl24 (id : Nat) : Option (List Ev.PI) :=
  bif Nat.beq id 11 then some [.q 0, .q 1, .q 2, .q 3, .q 4, .l 5 [], .q 6] else none
/-- The order in which function 27's great drawn regions are gone through. -/
def pl27 (id : Nat) : Option (List Ev.PI) :=
  bif Nat.beq id 1 then some [.q 0, .q 1, .q 2, .q 3, .q 4, .q 5, .q 6, .q 7, .q 8, .q 9, .q 10] else none
/-- The order in which function 28's great drawn regions are gone through. -/
def pl28 (id : Nat) : Option (List Ev.PI) :=
  bif Nat.beq id 6 then some [.q 0, .q 1, .q 2, .q 3, .q 4, .q 5, .q 6, .q 7, .q 8] else none
/-- The order in which function 33's great drawn regions are gone through. -/
def pl33 (id : Nat) : Option (List Ev.PI) :=
  bif Nat.beq id 1 then some [.q 0, .q 1, .q 2, .q 3, .q 4, .q 5, .l 6 [10], .q 7, .q 8, .q 9, .l 10 [], .l 11 [], .q 12] else bif Nat.beq id 5 then some [.q 0, .q 1, .q 2, .q 3, .q 4, .q 5, .q 6, .q 7, .q 8, .q 9, .q 10] else bif Nat.beq id 9 then some [.q 0, .q 1, .q 2, .q 3, .q 4, .q 5, .q 6, .q 7, .q 8, .q 9, .q 10, .q 11, .q 12, .q 13, .q 14, .q 15] else none
/-- The order in which function 35's great drawn regions are gone through. -/
def pl35 (id : Nat) : Option (List Ev.PI) :=
  bif Nat.beq id 4 then some [.q 0, .q 1, .q 2, .q 3, .q 4, .q 5, .l 6 [], .q 7, .q 8] else bif Nat.beq id 14 then some [.q 0, .q 1, .q 2, .q 3, .q 4, .q 5, .q 6, .q 7, .q 8, .q 9, .q 10, .q 11, .q 12, .q 13, .q 14, .q 15, .l 16 []] else bif Nat.beq id 15 then some [.q 0, .q 1, .q 2, .q 3, .q 4, .q 5, .l 6 [], .l 7 [], .q 8, .q 9, .l 10 []] else none
/-- The order in which function 46's great drawn regions are gone through. -/
def pl46 (id : Nat) : Option (List Ev.PI) :=
  bif Nat.beq id 3 then some [.q 0, .q 1, .q 2, .q 3, .q 4, .q 5, .q 6, .q 7, .q 8, .l 9 [], .l 10 [], .q 11] else none
/-- The order in which function 47's great drawn regions are gone through. -/
def pl47 (id : Nat) : Option (List Ev.PI) :=
  bif Nat.beq id 3 then some [.q 0, .q 1, .q 2, .q 3, .q 4, .q 5, .l 6 []] else bif Nat.beq id 5 then some [.q 0, .q 1, .q 2, .q 3, .q 4, .q 5, .l 6 []] else none
/-- The order in which function 48's great drawn regions are gone through. -/
def pl48 (id : Nat) : Option (List Ev.PI) :=
  bif Nat.beq id 9 then some [.q 0, .q 1, .q 2, .q 3, .q 5, .q 6, .q 7, .q 8, .l 4 [], .l 9 [], .q 10] else none
/-- The order in which function 49's great drawn regions are gone through. -/
def pl49 (id : Nat) : Option (List Ev.PI) :=
  bif Nat.beq id 10 then some [.q 0, .q 1, .q 2, .q 3, .q 4, .q 5, .q 6, .q 7, .l 8 [], .q 9] else none
/-- The order in which function 56's great drawn regions are gone through. -/
def pl56 (id : Nat) : Option (List Ev.PI) :=
  bif Nat.beq id 4 then some [.q 0, .q 1, .q 2, .q 3, .q 4, .l 5 [], .q 6] else none
/-- The order in which function 59's great drawn regions are gone through. -/
def pl59 (id : Nat) : Option (List Ev.PI) :=
  bif Nat.beq id 3 then some [.q 0, .q 1, .q 2, .q 3, .q 4, .q 6, .q 7, .q 8, .q 9, .q 10, .q 11, .l 5 [], .q 12, .q 13, .q 14, .q 15] else bif Nat.beq id 5 then some [.q 0, .q 1, .q 2, .q 4, .q 5, .q 6, .q 7, .q 8, .l 3 [], .q 9, .q 10, .q 11] else bif Nat.beq id 6 then some [.q 0, .q 1, .q 2, .q 3, .q 4, .q 5, .q 6, .q 7, .q 8, .q 9, .q 10] else none
/-- The order in which function 60's great drawn regions are gone through. -/
def pl60 (id : Nat) : Option (List Ev.PI) :=
  bif Nat.beq id 22 then some [.q 0, .q 1, .q 2, .q 3, .q 4, .q 5, .q 6, .q 7, .l 8 []] else bif Nat.beq id 30 then some [.q 0, .q 1, .q 2, .q 3, .q 4, .q 5, .l 6 []] else none
/-- The order in which function 65's great drawn regions are gone through. -/
def pl65 (id : Nat) : Option (List Ev.PI) :=
  bif Nat.beq id 3 then some [.q 0, .q 2, .l 1 [3], .l 3 [], .q 4, .l 5 [], .q 6, .q 7] else none
/-- The order in which function 69's great drawn regions are gone through. -/
def pl69 (id : Nat) : Option (List Ev.PI) :=
  bif Nat.beq id 2 then some [.q 0, .q 1, .q 2, .q 3, .q 4, .q 5, .q 6, .q 7, .q 8, .l 9 []] else none
/-- The order in which function 73's great drawn regions are gone through. -/
def pl73 (id : Nat) : Option (List Ev.PI) :=
  bif Nat.beq id 4 then some [.q 0, .q 1, .q 2, .q 3, .q 4, .q 5, .q 6, .q 7] else none
/-- The order in which function 74's great drawn regions are gone through. -/
def pl74 (id : Nat) : Option (List Ev.PI) :=
  bif Nat.beq id 1 then some [.q 0, .q 1, .q 2, .q 3, .q 4, .q 5, .q 6, .q 7, .l 8 [], .q 9, .q 10] else bif Nat.beq id 3 then some [.q 0, .q 1, .q 2, .q 3, .q 4, .l 5 [9], .q 6, .q 7, .q 8, .l 9 [], .l 10 [], .q 11] else bif Nat.beq id 7 then some [.q 0, .q 1, .q 2, .q 3, .q 4, .l 5 [9], .q 6, .q 7, .q 8, .l 9 [], .l 10 [], .q 11] else bif Nat.beq id 10 then some [.q 0, .q 1, .q 2, .q 3, .q 4, .q 5, .q 6, .q 7, .q 8, .q 10, .l 9 [], .l 11 []] else none
/-- The order in which function 84's great drawn regions are gone through. -/
def pl84 (id : Nat) : Option (List Ev.PI) :=
  bif Nat.beq id 1 then some [.q 0, .q 1, .q 2, .q 3, .q 4, .l 5 [9], .q 6, .q 7, .q 8, .l 9 [], .l 10 [], .q 11] else bif Nat.beq id 3 then some [.q 0, .q 1, .q 2, .q 3, .q 4, .q 5, .l 6 []] else none
/-- The order in which function 87's great drawn regions are gone through. -/
def pl87 (id : Nat) : Option (List Ev.PI) :=
  bif Nat.beq id 4 then some [.q 0, .q 1, .q 2, .q 3, .q 4, .q 5, .l 6 []] else bif Nat.beq id 5 then some [.q 0, .q 1, .q 2, .q 3, .q 4, .q 5, .q 6, .q 7] else bif Nat.beq id 7 then some [.q 0, .q 1, .q 2, .q 3, .q 4, .q 5, .q 6, .q 7, .q 8, .q 9, .l 10 [], .l 11 [], .l 12 []] else bif Nat.beq id 8 then some [.q 0, .q 1, .q 2, .q 3, .q 4, .q 5, .q 6, .q 7] else bif Nat.beq id 9 then some [.q 0, .q 1, .q 2, .q 3, .q 4, .q 5, .l 6 [], .l 7 []] else bif Nat.beq id 10 then some [.q 0, .q 1, .q 2, .q 3, .q 4, .q 5, .q 6, .q 7, .l 8 []] else none
/-- The order in which function 91's great drawn regions are gone through. -/
def pl91 (id : Nat) : Option (List Ev.PI) :=
  bif Nat.beq id 5 then some [.q 0, .q 1, .q 2, .q 3, .q 4, .q 5, .q 6, .q 7, .q 8, .q 9, .q 10, .q 11, .q 12] else none
/-- The order in which function 92's great drawn regions are gone through. -/
def pl92 (id : Nat) : Option (List Ev.PI) :=
  bif Nat.beq id 10 then some [.q 0, .q 1, .q 2, .q 3, .q 4, .q 5, .l 6 [], .l 7 [], .q 8, .q 9, .l 10 []] else bif Nat.beq id 11 then some [.q 0, .q 1, .q 2, .q 3, .q 4, .q 5, .q 6, .q 7, .l 8 []] else none
/-- The order in which function 94's great drawn regions are gone through. -/
def pl94 (id : Nat) : Option (List Ev.PI) :=
  bif Nat.beq id 0 then some [.q 0, .q 1, .q 2, .q 3, .q 4, .q 5, .q 6, .q 7, .q 8, .q 9, .q 10, .q 11, .q 12, .l 13 []] else none
/-- The order in which function 96's great drawn regions are gone through. -/
def pl96 (id : Nat) : Option (List Ev.PI) :=
  bif Nat.beq id 7 then some [.q 0, .q 1, .q 2, .q 3, .q 4, .q 5, .q 6, .q 7, .q 8, .l 9 [], .l 10 [], .q 11] else none
/-- The order in which function 98's great drawn regions are gone through. -/
def pl98 (id : Nat) : Option (List Ev.PI) :=
  bif Nat.beq id 5 then some [.q 0, .q 1, .q 2, .q 3, .q 4, .q 5, .q 6, .q 7] else bif Nat.beq id 7 then some [.q 0, .q 1, .q 2, .q 3, .q 4, .q 5, .q 6, .q 7, .q 8, .q 9, .l 10 [], .l 11 []] else bif Nat.beq id 8 then some [.q 0, .q 1, .q 2, .q 3, .q 4, .q 5, .q 6, .q 7, .q 8] else bif Nat.beq id 9 then some [.q 0, .q 1, .q 2, .q 3, .q 4, .q 5, .l 6 []] else bif Nat.beq id 10 then some [.q 0, .q 1, .q 2, .q 3, .q 4, .q 5, .q 6, .q 7, .l 8 []] else bif Nat.beq id 11 then some [.q 0, .q 1, .q 2, .q 3, .q 4, .q 5, .q 6, .q 7, .q 8] else bif Nat.beq id 12 then some [.q 0, .q 1, .q 2, .q 3, .q 4, .q 5, .l 6 []] else none
/-- The order in which function 100's great drawn regions are gone through. -/
def pl100 (id : Nat) : Option (List Ev.PI) :=
  bif Nat.beq id 11 then some [.q 0, .q 1, .q 2, .q 3, .q 4, .q 5, .l 6 [], .l 7 [], .q 8, .q 9, .l 10 []] else none
/-- The order in which function 106's great drawn regions are gone through. -/
def pl106 (id : Nat) : Option (List Ev.PI) :=
  bif Nat.beq id 4 then some [.q 0, .q 1, .q 2, .q 3, .q 4, .q 5, .q 6, .q 7, .q 8, .q 9, .q 10, .q 11, .l 12 []] else bif Nat.beq id 6 then some [.q 0, .q 1, .q 2, .q 3, .l 4 [5, 6], .l 5 [6], .l 6 [], .l 7 [], .l 8 []] else bif Nat.beq id 7 then some [.q 0, .q 1, .q 2, .q 3, .q 4, .q 5, .q 6, .q 7, .q 8, .l 9 []] else bif Nat.beq id 8 then some [.q 0, .q 1, .q 2, .q 3, .q 4, .q 5, .q 6, .q 7, .q 8, .q 9, .l 10 []] else bif Nat.beq id 20 then some [.q 0, .q 1, .q 2, .q 3, .q 4, .q 5, .q 6, .q 7, .q 8, .q 9, .q 10, .q 11, .q 12, .q 13, .q 14, .q 15, .q 16, .q 17, .q 18, .q 19, .q 20, .q 21, .l 22 [], .q 23, .q 24, .q 25, .q 26, .q 27, .q 28, .l 29 [], .q 30, .l 31 [], .q 32, .l 33 [], .q 34, .l 35 []] else bif Nat.beq id 27 then some [.q 0, .q 1, .q 2, .q 3, .q 4, .q 5, .q 6, .q 7, .q 8, .q 9, .q 10, .q 11, .q 12, .q 13, .q 14, .q 15, .q 16, .q 17, .l 18 [], .q 19, .q 20, .q 21, .q 22, .q 23, .q 24, .l 25 [], .q 26, .l 27 [], .q 28, .l 29 [], .q 30, .l 31 []] else bif Nat.beq id 33 then some [.q 0, .q 1, .q 2, .q 3, .q 4, .q 5, .q 6, .q 7, .q 8, .q 9, .q 10, .q 11, .q 12, .q 13, .q 14, .q 15, .q 16, .l 17 []] else none
/-- The order in which function 108's great drawn regions are gone through. -/
def pl108 (id : Nat) : Option (List Ev.PI) :=
  bif Nat.beq id 6 then some [.q 0, .q 1, .q 2, .q 3, .q 4, .q 5, .q 6, .q 7, .q 8, .q 9, .q 10, .l 11 [], .l 12 [], .q 13] else none
/-- The order in which function 109's great drawn regions are gone through. -/
def pl109 (id : Nat) : Option (List Ev.PI) :=
  bif Nat.beq id 1 then some [.q 0, .q 1, .q 2, .q 3, .q 4, .q 5, .q 6, .q 7, .q 8, .q 9] else bif Nat.beq id 2 then some [.q 0, .q 1, .q 2, .q 3, .q 4, .q 5, .q 6, .q 7, .q 8, .q 9, .q 10, .q 11, .q 12, .q 13, .q 14, .l 15 []] else none
/-- The order in which function 113's great drawn regions are gone through. -/
def pl113 (id : Nat) : Option (List Ev.PI) :=
  bif Nat.beq id 8 then some [.q 0, .q 1, .q 2, .q 3, .q 4, .q 5, .q 6, .q 7, .q 8, .q 9, .q 10, .q 11] else bif Nat.beq id 12 then some [.q 0, .q 1, .q 2, .q 3, .q 4, .l 5 [8], .q 6, .q 7, .l 8 [], .l 9 []] else bif Nat.beq id 16 then some [.q 0, .q 1, .q 2, .q 3, .q 4, .q 5, .l 6 []] else none
/-- The order in which function 114's great drawn regions are gone through. -/
def pl114 (id : Nat) : Option (List Ev.PI) :=
  bif Nat.beq id 1 then some [.q 0, .q 1, .q 2, .l 3 [], .q 4, .l 5 [], .l 6 [], .l 7 []] else none
/-- The order in which function 117's great drawn regions are gone through. -/
def pl117 (id : Nat) : Option (List Ev.PI) :=
  bif Nat.beq id 5 then some [.q 0, .q 1, .q 2, .q 3, .q 4, .q 5, .l 6 [], .q 7] else none
/-- The order in which function 119's great drawn regions are gone through. -/
def pl119 (id : Nat) : Option (List Ev.PI) :=
  bif Nat.beq id 3 then some [.q 0, .q 1, .q 3, .q 4, .q 6, .q 7, .l 2 [], .q 5, .l 8 [], .q 9, .q 10, .q 11] else none
/-- The order in which function 121's great drawn regions are gone through. -/
def pl121 (id : Nat) : Option (List Ev.PI) :=
  bif Nat.beq id 11 then some [.q 0, .q 1, .q 2, .q 3, .q 4, .q 5, .q 6, .q 7, .l 8 []] else bif Nat.beq id 15 then some [.q 0, .q 1, .q 2, .q 3, .q 4, .q 5, .q 6, .q 7, .l 8 []] else none
/-- The order in which function 125's great drawn regions are gone through. -/
def pl125 (id : Nat) : Option (List Ev.PI) :=
  bif Nat.beq id 1 then some [.q 0, .q 1, .q 2, .q 3, .q 4, .q 5, .q 7, .q 8, .q 9, .q 10, .l 6 [], .l 11 [], .l 12 [], .l 13 [], .q 14] else none
/-- The order in which function 128's great drawn regions are gone through. -/
def pl128 (id : Nat) : Option (List Ev.PI) :=
  bif Nat.beq id 1 then some [.q 0, .q 1, .q 2, .q 3, .q 5, .q 6, .q 7, .q 8, .l 4 [], .l 9 [], .l 10 [], .l 11 [], .q 12] else none
/-- The order in which function 130's great drawn regions are gone through. -/
def pl130 (id : Nat) : Option (List Ev.PI) :=
  bif Nat.beq id 5 then some [.q 0, .q 1, .q 2, .q 3, .q 4, .q 5, .l 6 [], .q 7] else none
/-- The order in which function 141's great drawn regions are gone through. -/
def pl141 (id : Nat) : Option (List Ev.PI) :=
  bif Nat.beq id 2 then some [.q 0, .q 1, .q 2, .q 3, .q 4, .q 5, .q 8, .q 9, .q 10, .l 6 [], .l 7 [], .l 11 [], .q 12, .q 13, .q 14] else none
/-- The order in which function 142's great drawn regions are gone through. -/
def pl142 (id : Nat) : Option (List Ev.PI) :=
  bif Nat.beq id 1 then some [.q 0, .q 1, .q 2, .q 3, .q 4, .q 5, .q 6, .q 7, .q 8, .q 9, .q 10, .q 11, .q 12, .q 13, .q 14, .q 15, .q 16, .q 17, .q 18, .q 19, .q 20, .q 21, .q 22] else none
/-- The order in which function 148's great drawn regions are gone through. -/
def pl148 (id : Nat) : Option (List Ev.PI) :=
  bif Nat.beq id 17 then some [.q 0, .q 1, .q 2, .q 3, .q 4, .q 5, .q 6, .q 7, .q 8, .q 9, .q 10, .q 11, .q 12, .l 13 [], .q 14, .q 15, .q 16] else none
/-- The order in which function 154's great drawn regions are gone through. -/
def pl154 (id : Nat) : Option (List Ev.PI) :=
  bif Nat.beq id 17 then some [.q 0, .q 1, .q 2, .q 3, .q 4, .q 5, .q 6, .q 7, .q 8, .q 9, .q 10, .q 11, .q 12, .l 13 [], .q 14, .q 15, .q 16] else none
/-- The order in which function 160's great drawn regions are gone through. -/
def pl160 (id : Nat) : Option (List Ev.PI) :=
  bif Nat.beq id 4 then some [.q 0, .q 1, .q 2, .q 3, .q 4, .q 5, .q 6, .q 7, .q 8, .q 9, .q 10, .q 11, .q 12, .q 13, .l 14 [], .q 15, .q 16] else bif Nat.beq id 6 then some [.q 0, .q 1, .q 2, .q 3, .q 4, .q 5, .q 6, .q 7, .q 8, .q 9, .q 10, .q 11, .q 12, .q 13, .q 14, .l 15 [], .q 16, .l 17 []] else none
/-- The order in which function 171's great drawn regions are gone through. -/
def pl171 (id : Nat) : Option (List Ev.PI) :=
  bif Nat.beq id 4 then some [.q 0, .q 1, .q 2, .q 3, .q 4, .q 5, .q 6, .q 7, .q 8, .q 9, .q 10, .q 11, .q 12, .q 13, .l 14 [], .q 15, .q 16] else bif Nat.beq id 6 then some [.q 0, .q 1, .q 2, .q 3, .q 4, .q 5, .q 6, .q 7, .q 8, .q 9, .q 10, .q 11, .q 12, .q 13, .q 14, .l 15 [], .q 16, .l 17 []] else none
def kxPl (f : FuncId) : Nat → Option (List Ev.PI) :=
  bif Nat.beq f 6 then pl6 else bif Nat.beq f 8 then pl8 else bif Nat.beq f 11 then pl11 else bif Nat.beq f 12 then pl12 else bif Nat.beq f 13 then pl13 else bif Nat.beq f 17 then pl17 else bif Nat.beq f 18 then pl18 else bif Nat.beq f 21 then pl21 else bif Nat.beq f 23 then pl23 else bif Nat.beq f 24 then pl24 else bif Nat.beq f 27 then pl27 else bif Nat.beq f 28 then pl28 else bif Nat.beq f 33 then pl33 else bif Nat.beq f 35 then pl35 else bif Nat.beq f 46 then pl46 else bif Nat.beq f 47 then pl47 else bif Nat.beq f 48 then pl48 else bif Nat.beq f 49 then pl49 else bif Nat.beq f 56 then pl56 else bif Nat.beq f 59 then pl59 else bif Nat.beq f 60 then pl60 else bif Nat.beq f 65 then pl65 else bif Nat.beq f 69 then pl69 else bif Nat.beq f 73 then pl73 else bif Nat.beq f 74 then pl74 else bif Nat.beq f 84 then pl84 else bif Nat.beq f 87 then pl87 else bif Nat.beq f 91 then pl91 else bif Nat.beq f 92 then pl92 else bif Nat.beq f 94 then pl94 else bif Nat.beq f 96 then pl96 else bif Nat.beq f 98 then pl98 else bif Nat.beq f 100 then pl100 else bif Nat.beq f 106 then pl106 else bif Nat.beq f 108 then pl108 else bif Nat.beq f 109 then pl109 else bif Nat.beq f 113 then pl113 else bif Nat.beq f 114 then pl114 else bif Nat.beq f 117 then pl117 else bif Nat.beq f 119 then pl119 else bif Nat.beq f 121 then pl121 else bif Nat.beq f 125 then pl125 else bif Nat.beq f 128 then pl128 else bif Nat.beq f 130 then pl130 else bif Nat.beq f 141 then pl141 else bif Nat.beq f 142 then pl142 else bif Nat.beq f 148 then pl148 else bif Nat.beq f 154 then pl154 else bif Nat.beq f 160 then pl160 else bif Nat.beq f 171 then pl171 else fun _ => none
noncomputable def kx : Ev.K := { p := Tryz.prog, gl := kxGl, ex := kxEx, mg := kxMg, orc := kxOrc, pl := kxPl }

theorem plans0 : Ev.PlansOk k0 := Ev.plansNone fun _ _ => rfl
/-- Two functions of numbers alone, whatever these are: the kernel runs them with letters in the numbers' places. -/
theorem crc_run (c : Nat) (h : Ev.H) : Ev.callF k0 (Ev.code k0 50) 158 [.int .u8 (.ofNat c)] h = some [.ret (.int .u32 (.ofNat (Ev.crcStep c))) h] := by
  rw [← Ev.callR_eq plans0]
  kernel_rfl
theorem quarter_run (a b c d x y : Nat) (h : Ev.H) : Ev.callF k0 (Ev.code k0 50) 137 [.int .u32 (.ofNat a), .int .u32 (.ofNat b), .int .u32 (.ofNat c), .int .u32 (.ofNat d), .int .u32 (.ofNat x), .int .u32 (.ofNat y)] h =
    some [.ret (Ev.quarter4 a b c d x y fun a b c d => .tup [.int .u32 (.ofNat a), .int .u32 (.ofNat b), .int .u32 (.ofNat c), .int .u32 (.ofNat d)]) h] := by
  rw [← Ev.callR_eq plans0]
  kernel_rfl

theorem grel [Ev.Sym] {W : World} (h : Lib.TabIs Tryz.prog W "math/bits.deBruijn64tab" .u8 zs) : Ev.GRel kx.gl fun i => W.heap[i]? := by
  intro g xs hg
  have hg : kxGl g = some xs := hg
  unfold kxGl at hg
  split at hg
  · cases hg
    exact Ev.grel_row (by decide) fun i hi => h.cell gTab i hi
  · cases hg

theorem noCount : (Tryz.prog.funcs.toList.all fun fd => !(fd.name == "runtime.NumGoroutine")) = true := by kernel_rfl
theorem k0_ok : k0.Ok where
  ng f fd h := by
    have := List.all_eq_true.1 noCount fd (Array.mem_toList_iff.2 (Array.mem_of_getElem? h))
    simpa using this
  ex f e fd he hf hb := by
    by_cases h170 : f = 170
    · subst h170
      have he : some Ev.Ext.compare = some e := he
      cases he
      rw [show k0.p = Tryz.prog from rfl, Tryz.func170] at hf
      cases hf
      exact ⟨by kernel_rfl, by kernel_rfl⟩
    · exfalso
      have he : kxEx f = some e := he
      unfold kxEx at he
      split at he
      · exact h170 rfl
      · cases he
theorem kx_ok : kx.Ok := ⟨k0_ok.ng, k0_ok.ex⟩
theorem orc_ok [Ev.Sym] : Ev.OrcOk kx := by
  intro f args h es he
  have he : kxOrc f args h = some es := he
  have ho : Ev.OrcOk k0 := Ev.OrcOk.none fun _ _ _ => rfl
  unfold kxOrc at he
  cases hc : Nat.beq f 158 with
  | true =>
    rw [hc] at he
    have he : Ev.orcNat [.u8] Ev.crcG args h = some es := he
    rw [Nat.eq_of_beq_eq_true hc]
    obtain ⟨ns, v, rfl, _, h1, rfl⟩ := Ev.orcNat_spec he
    obtain ⟨c, rfl, rfl⟩ := Ev.crcG_spec h1
    intro Φ θ w xs hg ha hi
    exact Ev.orc_of_run k0_ok ho mixes (crc_run c h) hg ha hi
  | false =>
    rw [hc] at he
    cases hq : Nat.beq f 137 with
    | true =>
      rw [hq] at he
      have he : Ev.orcNat [.u32, .u32, .u32, .u32, .u32, .u32] Ev.quarterG args h = some es := he
      rw [Nat.eq_of_beq_eq_true hq]
      obtain ⟨ns, v, rfl, _, h1, rfl⟩ := Ev.orcNat_spec he
      obtain ⟨a, b, c, d, x, y, rfl, rfl⟩ := Ev.quarterG_spec h1
      intro Φ θ w xs hg ha hi
      exact Ev.orc_of_run k0_ok ho mixes (quarter_run a b c d x y h) hg ha hi
    | false =>
      rw [hq] at he
      cases he
end Go.Proofs.YtnboghpebjciaaaGreatDoor.Kit
