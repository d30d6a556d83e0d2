/-
  'cellarage/cellaragelaw22.SweepNil' answers true whatever its argument is, and leaves the argument as it reads: the evaluator runs the whole law, the argument's 33 cells given by number; conditions: the card's own (the listed table is laid as the program's text lays it).
-/
import Derived.Test.YtnboghpebjciaaaGreatDoorTie
import Derived.Test.YtnboghpebjciaaaGreatDoorSweepNilRun
import Derived.Test.YtnboghpebjciaaaGreatDoorPlans
import Derived.ProofKit
import Derived.OpenShut
import Derived.Carry
import Derived.Deep.DeepHandedRow
namespace Go.Proofs.YtnboghpebjciaaaGreatDoor.sweepNil
open Go.ChangeShapes Go.WideShapes Go.ChangeAt Go.RowKit
set_option maxRecDepth 100000

/-- THE RUN: by the kernel. -/
theorem runs : Ev.showsAt Kit.kx 1000000 4 [.agg (Ev.syms 33 0)] = true := (Ev.showsR_eq Plans.plans _ _ _).symm.trans sweepNilRun.runsR
theorem cellsArg : Tryz.prog.cellsOf 28 = 33 := by kernel_rfl

theorem call (cs : Array Value) (hsz : cs.size = 33) (hone : ∀ (i : Nat) v, cs[i]? = some v → v.oneCell' = true) {W : World} (h : Lib.TabIs Tryz.prog W "math/bits.deBruijn64tab" .u8 Kit.zs) :
    Calls Tryz.prog 4 #[.agg cs] W fun e W' => e = .returned (.bool true) ∧ Below W.heap.size W W' := by
  letI : Ev.Sym := Ev.symOf cs hone
  have hc : Ev.concL (fun _ => none) (Ev.syms 33 0) = some cs.toList := by
    have := Ev.concL_syms (θ := fun _ => none) cs.toList 0 fun j x hx => by
      show cs.getD (0 + j) (.bool false) = x
      rw [Nat.zero_add, Array.getD_eq_getD_getElem?, show cs[j]? = some x by simpa using hx]
      rfl
    rw [Array.length_toList, hsz] at this
    exact this
  have ha : Ev.concL (fun _ => none) [.agg (Ev.syms 33 0)] = some [.agg cs] :=
    Ev.concL_cons.2 ⟨_, _, by simp only [Ev.conc, hc], Ev.concL_nil _, rfl⟩
  exact Ev.calls_at Kit.kx_ok Kit.orc_ok Kit.mixes (Kit.grel h) ha runs

theorem contract (H : Type) (enc : TypeId × Value → H) (W : World) (base : Nat) (args : Array Value) (ds gs : List (DataW H)) (before : List MemPlace)
    (hval : ∀ (j : Nat) t v, Tryz.f4.params[j]? = some t → args[j]? = some v → Value.okWide Tryz.prog W .any base t v)
    (hW : DataW.Whole enc Tryz.prog Tryz.f4.params.toList Rows.sweepNilSpec.vars false W args.toList ds gs before) (hL : laidMetH Tryz.prog Rows.sweepNilRow.laid W) :
    Calls Tryz.prog 4 args W fun e W' => ∃ v, e = .returned v ∧ Rows.sweepNilSpec.post enc Tryz.prog Tryz.f4 false true false false W args v W' := by
  have hW' := hW
  obtain ⟨p, q, hA0, hV, rfl, hfz, hnd⟩ := hW
  have hA : DataW.TrodAll enc Tryz.prog W 0 (fun _ => true) true Tryz.f4.params.toList args.toList ds p := hA0
  rw [Tryz.params4] at hA hval
  obtain ⟨v0, vs0, d0, ds0, p0, q0, hargs, rfl, rfl, h0, r0⟩ := trodAll_cons hA
  obtain ⟨rfl, rfl, rfl⟩ := trodAll_nil r0
  obtain rfl : args = #[v0] := by cases args; simp_all
  obtain ⟨rfl, rfl⟩ := trodVars_none hV
  clear hA0
  simp only [List.append_nil] at hW'
  have hok := hval 0 28 v0 rfl rfl
  simp only [Value.okWide, Tryz.underlying28] at hok
  obtain ⟨cs, rfl, hsz, hrow⟩ := hok
  rw [cellsArg] at hsz
  have hlt : ∀ x ∈ p0, x.block < W.heap.size := fun x hx => by simpa using hW'.lt x (by simpa using hx)
  refine (call cs hsz (Ev.row_one hrow) (Kit.table hL)).mono fun e W' ⟨he, hb⟩ => ?_
  subst he
  refine ⟨_, rfl, [d0], [], p0, [], p0 ++ [], [], by simpa using hW', ?_, ?_, rfl, hb.frame _, fun h => by cases h⟩
  · exact trodAll_cons_mk (shut_bool Tryz.underlying4 _) trodAll_mk0
  · exact trodAll_cons_mk (Below.trod Kit.laidOut (by kernel_rfl) (of_decide_eq_true (by kernel_rfl)) h0 hb hlt) trodAll_mk0

/-- A world for the witness: the settled one, the table holding what its initialiser lays. -/
noncomputable def laidWorld (os : Os) : World :=
  { World.holding Tryz.prog os ⟨#[], #[], []⟩ with heap := (World.holding Tryz.prog os ⟨#[], #[], []⟩).heap.modify 0 fun
      | .cells _ t frozen => .cells (Kit.zs.map (Value.int .u8)).toArray t frozen
      | o => o }
def wit : Value := .agg #[.int .u8 0, .int .u8 0, .int .u8 0, .int .u8 0, .int .u8 0, .int .u8 0, .int .u8 0, .int .u8 0, .int .u8 0, .int .u8 0, .int .u8 0, .int .u8 0, .int .u8 0, .int .u8 0, .int .u8 0, .int .u8 0, .int .u8 0, .int .u8 0, .int .u8 0, .int .u8 0, .int .u8 0, .int .u8 0, .int .u8 0, .int .u8 0, .int .u8 0, .int .u8 0, .int .u8 0, .int .u8 0, .int .u8 0, .int .u8 0, .int .u8 0, .int .u8 0, .int .u32 0]
theorem laid_met (os : Os) : laidMet Tryz.prog Rows.sweepNilRow.laid ((laidWorld os).forCall (fun _ _ => 0) ⟨#[], #[wit], []⟩).memory :=
  laidMet_of_run' 8 (by kernel_rfl) (by kernel_rfl)
theorem reads (os : Os) {H : Type} (enc : TypeId × Value → H) : ∃ x, DataW.whole enc Tryz.prog ((laidWorld os).forCall (fun _ _ => 0) ⟨#[], #[wit], []⟩).memory Tryz.f4.params.toList Rows.sweepNilSpec.vars false #[wit].toList 8 = some x :=
  Option.isSome_iff_exists.1 (by kernel_rfl)

theorem lifted (os : Os) (started : os.Started) (H : Type) (enc : TypeId × Value → H) (F : Stop.Interp) :
    ReturnsInHanded {} Tryz.checked os 4 .any ((OpenSpec.ofChange Rows.sweepNilSpec).preRow enc Tryz.prog Tryz.f4 Rows.sweepNilRow.domain false Rows.sweepNilRow.laid) (((OpenSpec.ofChange Rows.sweepNilSpec).at F).post enc Tryz.prog Tryz.f4 false true false false) := by
  obtain ⟨x, hx⟩ := reads os enc
  refine returnsInHanded_of_row (C := Tryz.checked) (s := OpenSpec.ofChange Rows.sweepNilSpec) Kit.own started (by kernel_rfl) Tryz.func4
    (witness_row_at (enc := enc) (C := Tryz.checked) false (laidWorld os) #[wit] rfl (by kernel_rfl) (by kernel_rfl) (by kernel_rfl)
      (OpenSpec.preRow_of_cond 8 hx (by kernel_rfl) (fun k hk => by cases hk) (by kernel_rfl) (laid_met os))) ?_
  intro W base args ds gs before hval hW _ _ _ hL _ _
  exact contract H enc W base args ds gs before hval hW hL

theorem said : Rows.SweepNilSaid :=
  OpenClaim.holds_of_cond 4 Tryz.f4 rfl rfl rfl rfl rfl rfl rfl ⟨rfl, rfl, rfl, rfl, rfl⟩ rfl rfl rfl rfl rfl (by kernel_rfl) Tryz.func4 (by kernel_rfl)
    (of_decide_eq_true (by kernel_rfl)) (by unfold Func.isWrapper; first | (rw [if_pos (by decide +kernel)]; kernel_rfl) | (rw [if_neg (by decide +kernel)]; exact ⟨rfl, rfl⟩))
    (fun os started H enc _ F => by rw [OpenClaim.pre_eq_preRow]; exact lifted os started H enc F)

theorem plain (f : FuncId) (fn : Func) (hf : Tryz.pinned.checked.prog.funcNamed "cellarage/cellaragelaw22.SweepNil" = some f) (hfn : Tryz.pinned.checked.prog.funcs[f]? = some fn) :
    false = Tryz.pinned.checked.prog.looks [] ∧ ∀ (j : Nat) t, fn.params[j]? = some t → Tryz.pinned.checked.prog.wantsStandIn t = false := by
  obtain rfl : f = 4 := Option.some.inj ((show Tryz.prog.funcNamed "cellarage/cellaragelaw22.SweepNil" = some 4 by kernel_rfl).symm.trans hf) |>.symm
  obtain rfl : fn = Tryz.f4 := (Option.some.inj (Tryz.func4.symm.trans hfn)).symm
  refine ⟨by kernel_rfl, fun j t ht => ?_⟩
  rw [Tryz.params4] at ht
  obtain rfl : t = 28 := by simpa using Array.mem_of_getElem? ht
  exact (show Tryz.prog.wantsStandIn 28 = false by kernel_rfl)

/-- THE CARD. -/
theorem card : Rows.SweepNilCardSaid :=
  Claim7.holds_tied_plain_at .later [] _ _ _ _ said (fun _ h => by cases h) (by kernel_rfl) (fun _ h => by cases h) sweepNil_row_tie rfl ⟨rfl, rfl⟩ (by kernel_rfl) rfl plain (by kernel_rfl)
#print axioms card
end Go.Proofs.YtnboghpebjciaaaGreatDoor.sweepNil
