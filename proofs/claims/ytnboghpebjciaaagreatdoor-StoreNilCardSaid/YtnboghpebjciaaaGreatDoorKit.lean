/-
  What the evaluator is told of this seat's program (its one listed table; which function without a body it knows; whose outcomes it makes one), and that this is so; condition: the table is laid.
-/
import Derived.Test.YtnboghpebjciaaaGreatDoorCards
import Derived.Test.YtnboghpebjciaaaGreatDoorEvE
import Derived.Lib.LaidTab
import Derived.ChangeShapes
import Derived.KernelRfl
namespace Go.Proofs.YtnboghpebjciaaaGreatDoor.Kit
open Go
set_option maxRecDepth 100000

theorem own : ownKnob Tryz.prog.godebug = none := by kernel_rfl
theorem laidOut : laidOutB Tryz.prog = true := by kernel_rfl
theorem mixes : Tryz.prog.follows .mixedOrders = true := by kernel_rfl
theorem gTab : Tryz.prog.globalNamed "math/bits.deBruijn64tab" = some 0 := by kernel_rfl
theorem gTabType : (Tryz.prog.globals[0]?).map (·.type) = some 177 := by kernel_rfl
theorem cellsT : Tryz.prog.cellsOf 177 = 64 := by kernel_rfl
theorem cellsE : Tryz.prog.cellsOf 5 = 1 := by kernel_rfl
def zs : List Int := [0, 1, 56, 2, 57, 49, 28, 3, 61, 58, 42, 50, 38, 29, 17, 4, 62, 47, 59, 36, 45, 43, 51, 22, 53, 39, 33, 30, 24, 18, 12, 5, 63, 55, 48, 27, 60, 41, 37, 16, 46, 35, 44, 21, 52, 32, 23, 11, 54, 26, 40, 15, 34, 20, 31, 10, 25, 14, 19, 9, 13, 8, 7, 6]
theorem table {W : World} (h : laidMetH Tryz.prog Rows.storeNilRow.laid W) : Lib.TabIs Tryz.prog W "math/bits.deBruijn64tab" .u8 zs :=
  Lib.tabIs_of_head (rest := []) gTab gTabType Tryz.underlying177 Tryz.underlying5 cellsE cellsT h

def kxGl : Nat → Option (List Ev.V)
  | 0 => some (zs.map (Ev.V.int .u8))
  | _ => none
def kxEx : FuncId → Option Ev.Ext
  | 170 => some .compare
  | _ => none
def kxMg : FuncId → Bool
  | 96 => true
  | 97 => true
  | _ => false
noncomputable def k0 : Ev.K := { p := Tryz.prog, gl := kxGl, ex := kxEx, mg := kxMg }
noncomputable def kxOrc (f : FuncId) (args : List Ev.V) (h : Ev.H) : Option (List Ev.E) :=
  Bool.rec (Bool.rec none (Ev.orcNat [.u32, .u32, .u32, .u32, .u32, .u32] Ev.quarterG args h) (Nat.beq f 137)) (Ev.orcNat [.u8] Ev.crcG args h) (Nat.beq f 158)
noncomputable def kx : Ev.K := { p := Tryz.prog, gl := kxGl, ex := kxEx, mg := kxMg, orc := kxOrc }

/-- Two functions of numbers alone, whatever these are: the kernel runs them with letters in the numbers' places. -/
theorem crc_run (c : Nat) (h : Ev.H) : Ev.callF k0 (Ev.code k0 50) 158 [.int .u8 (.ofNat c)] h = some [.ret (.int .u32 (.ofNat (Ev.crcStep c))) h] := by
  rw [← Ev.callR_eq]
  kernel_rfl
theorem quarter_run (a b c d x y : Nat) (h : Ev.H) : Ev.callF k0 (Ev.code k0 50) 137 [.int .u32 (.ofNat a), .int .u32 (.ofNat b), .int .u32 (.ofNat c), .int .u32 (.ofNat d), .int .u32 (.ofNat x), .int .u32 (.ofNat y)] h =
    some [.ret (Ev.quarter4 a b c d x y fun a b c d => .tup [.int .u32 (.ofNat a), .int .u32 (.ofNat b), .int .u32 (.ofNat c), .int .u32 (.ofNat d)]) h] := by
  rw [← Ev.callR_eq]
  kernel_rfl

theorem grel [Ev.Sym] {W : World} (h : Lib.TabIs Tryz.prog W "math/bits.deBruijn64tab" .u8 zs) : Ev.GRel kx.gl fun i => W.heap[i]? := by
  intro g xs hg
  have hg : kxGl g = some xs := hg
  unfold kxGl at hg
  split at hg
  · cases hg
    exact Ev.grel_row (by decide) fun i hi => h.cell gTab i hi
  · cases hg

theorem noCount : (Tryz.prog.funcs.toList.all fun fd => !(fd.name == "runtime.NumGoroutine")) = true := by kernel_rfl
theorem k0_ok : k0.Ok where
  ng f fd h := by
    have := List.all_eq_true.1 noCount fd (Array.mem_toList_iff.2 (Array.mem_of_getElem? h))
    simpa using this
  ex f e fd he hf hb := by
    by_cases h170 : f = 170
    · subst h170
      have he : some Ev.Ext.compare = some e := he
      cases he
      rw [show k0.p = Tryz.prog from rfl, Tryz.func170] at hf
      cases hf
      exact ⟨by kernel_rfl, by kernel_rfl⟩
    · exfalso
      have he : kxEx f = some e := he
      unfold kxEx at he
      split at he
      · exact h170 rfl
      · cases he
theorem kx_ok : kx.Ok := ⟨k0_ok.ng, k0_ok.ex⟩
theorem orc_ok [Ev.Sym] : Ev.OrcOk kx := by
  intro f args h es he
  have he : kxOrc f args h = some es := he
  have ho : Ev.OrcOk k0 := Ev.OrcOk.none fun _ _ _ => rfl
  unfold kxOrc at he
  cases hc : Nat.beq f 158 with
  | true =>
    rw [hc] at he
    have he : Ev.orcNat [.u8] Ev.crcG args h = some es := he
    rw [Nat.eq_of_beq_eq_true hc]
    obtain ⟨ns, v, rfl, _, h1, rfl⟩ := Ev.orcNat_spec he
    obtain ⟨c, rfl, rfl⟩ := Ev.crcG_spec h1
    intro Φ θ w xs hg ha hi
    exact Ev.orc_of_run k0_ok ho mixes (crc_run c h) hg ha hi
  | false =>
    rw [hc] at he
    cases hq : Nat.beq f 137 with
    | true =>
      rw [hq] at he
      have he : Ev.orcNat [.u32, .u32, .u32, .u32, .u32, .u32] Ev.quarterG args h = some es := he
      rw [Nat.eq_of_beq_eq_true hq]
      obtain ⟨ns, v, rfl, _, h1, rfl⟩ := Ev.orcNat_spec he
      obtain ⟨a, b, c, d, x, y, rfl, rfl⟩ := Ev.quarterG_spec h1
      intro Φ θ w xs hg ha hi
      exact Ev.orc_of_run k0_ok ho mixes (quarter_run a b c d x y h) hg ha hi
    | false =>
      rw [hq] at he
      cases he
end Go.Proofs.YtnboghpebjciaaaGreatDoor.Kit
