/-
  The evaluator's other operations lead to a world that its new heap describes, whatever the tape says.
-/
import Derived.Test.YtnboghpebjciaaaGreatDoorEvB
import Derived.Laws.Append
import Derived.Laws.NewFold
import Derived.RangeFuncRecord
import Derived.MapKept
import Derived.Laws.AppendOwn
import Derived.Laws.Externs
set_option linter.unusedSectionVars false
set_option linter.unusedVariables false
set_option linter.unusedSimpArgs false
namespace Go.Proofs.YtnboghpebjciaaaGreatDoor.Ev
variable [Sym]
variable {k : K} {h h' : H} {s : S} {a : Act} {θ : Th} {w : World} {o : Oper} {Φ : Fr}

/-- A loud operation that answers a value. -/
def VOk (P : Program) (Φ : Fr) (θ : Th) (w : World) (a : Act) (o : Oper) (v : V) (h' : H) : Prop :=
  ∃ θ' x w', θ.le θ' ∧ (execOp a.eval o).run P w = .ok (.value x) w' ∧ conc θ' v = some x ∧ Inv Φ θ' h' w'
/-- One that answers nothing. -/
def SOk (P : Program) (Φ : Fr) (θ : Th) (w : World) (a : Act) (o : Oper) (h' : H) : Prop :=
  ∃ w', (execOp a.eval o).run P w = .ok .skip w' ∧ Inv Φ θ h' w'

/-- A new row of cells. -/
theorem ok_cells {L : Loc} {n z : Nat} {c : C} {arr : Array Value} {t : TypeId} (hw : w.heap[L.blk]? = some (.cells arr t (0, 0))) (h0 : L.off = 0) (hz : n + L.ext * z ≤ arr.size) (hf : c.fits n)
    (hc : ∀ i v, i < n → c.get i = some v → ∃ x, conc θ v = some x ∧ arr[i]? = some x) : OkO θ L w (.cells n c z) :=
  ⟨arr, t, 0, 0, hw, .inl rfl, by omega, hf, fun i v hi hv => by rw [h0, Nat.zero_add]; exact hc i v hi hv⟩
theorem concL_size {l : List V} {arr : Array Value} (h : concL θ l = some arr.toList) : arr.size = l.length := by rw [← Array.length_toList]; exact concL_length h
theorem heap_new (w : World) (o : Obj) : (w.alloc o).heap[w.heap.size]? = some o := by
  show (w.heap.push o)[w.heap.size]? = some o
  simp
theorem conc_new (θ : Th) (n : Nat) (L : Loc) (off : Nat) : conc (θ.ins n L) (.ptr n off) = some (.pointer (some ⟨L.blk, L.off + off, none⟩)) := by simp [conc, Th.ins_self]
theorem conc_new_sl (θ : Th) (n : Nat) (L : Loc) (off len cap : Nat) (op : Bool) : conc (θ.ins n L) (.sl n off len cap op) = some (.slice (some ⟨L.blk, L.off + off, none⟩) len (cap + if op then L.ext else 0)) := by simp [conc, Th.ins_self]
theorem le_new (hi : Inv Φ θ h w) (L : Loc) : θ.le (θ.ins h.n L) := Th.le_ins (hi.next _ (Nat.le_refl _))

theorem l_alloc {t : TypeId} {v : V} (ho : o.op = .alloc t) (hi : Inv Φ θ s.h w) (hv : evL0 k s o = some (.val v h')) : VOk k.p Φ θ w a o v h' := by
  simp only [evL0, ho] at hv
  split at hv
  · rename_i z hz
    obtain ⟨i, zv, h1, h2, rfl, h4, h5⟩ := zeroOf_spec (w := w) hz
    simp only [Option.some.injEq, R.val.injEq] at hv
    obtain ⟨rfl, rfl⟩ := hv
    have hc := conc_cells (conc_ofConst (θ.ins s.h.n ⟨w.heap.size, 0, 0⟩) zv)
    refine ⟨θ.ins s.h.n ⟨w.heap.size, 0, 0⟩, .pointer (some ⟨w.heap.size, 0, none⟩), w.alloc (.cells zv.cells t), le_new hi _, ?_, conc_new _ _ _ _, ?_⟩
    · simp only [execOp, ho, Instr.alloc, Sem.run_bind, h5, Result.andThen_ok, newVar, newRow, run_newObj_alloc, Sem.run_pure]
    · refine hi.add (ok_cells (heap_new _ _) rfl ?_ ?_ fun i v hi hv => ?_)
      · rw [concL_size hc, h4]; simp
      · have := C.zeros_fits (ofConst zv).cells 1
        rw [h4] at this
        simpa using this
      · rw [← h4] at hv hi
        rw [C.zeros_get _ _ _ (by omega), Nat.mod_eq_of_lt hi] at hv
        obtain ⟨x, hx, hx'⟩ := concL_get hc hv
        exact ⟨x, hx, by simpa using hx'⟩
  · simp at hv
theorem l_box {t : TypeId} {x : Operand} {v : V} (ho : o.op = .box t x) (E : Ops θ s a) (hi : Inv Φ θ s.h w) (hv : evL0 k s o = some (.val v h')) : VOk k.p Φ θ w a o v h' := by
  simp only [evL0, ho, Option.some.injEq, R.val.injEq] at hv
  obtain ⟨rfl, rfl⟩ := hv
  have hle := le_new hi ⟨w.heap.size, 0, 0⟩
  have hc := conc_cells (conc_le hle _ _ (E x))
  refine ⟨θ.ins s.h.n ⟨w.heap.size, 0, 0⟩, .pointer (some ⟨w.heap.size, 0, none⟩), w.alloc (.cells (a.eval x).cells t), hle, ?_, conc_new _ _ _ _, ?_⟩
  · simp only [execOp, ho, Instr.box, Sem.run_bind, newVar, newRow, run_newObj_alloc, Sem.run_pure, Result.andThen_ok]
  · refine hi.add (ok_cells (heap_new _ _) rfl ?_ (C.ofList_fits _) fun i v hi hv => ?_)
    · rw [concL_size hc]; simp
    · rw [C.ofList_get _ _ hi] at hv
      obtain ⟨x, hx, hx'⟩ := concL_get hc hv
      exact ⟨x, hx, by simpa using hx'⟩
theorem l_store {t : TypeId} {x y : Operand} (ho : o.op = .store t x y) (E : Ops θ s a) (hi : Inv Φ θ s.h w) (hv : evL0 k s o = some (.skip h')) : SOk k.p Φ θ w a o h' := by
  simp only [evL0, ho] at hv
  split at hv
  · rename_i h1 hst
    simp only [Option.some.injEq, R.skip.injEq] at hv; subst hv
    unfold storeAt at hst
    split at hst
    · rename_i b off e1
      have hx := E x
      rw [e1] at hx
      obtain ⟨L, hL, e3⟩ := conc_ptr hx
      split at hst
      · rename_i n hn
        obtain ⟨_, hsz, _⟩ := szOf_spec (w := w) hn
        obtain ⟨hb, hst⟩ := bif_some hst
        have hb := Nat.eq_of_beq_eq_true hb
        have hc := conc_cells (E y)
        obtain ⟨w', g1, g2⟩ := storeC_sound (P := k.p) hi hst hc hL
        refine ⟨w', ?_, g2⟩
        have hs : (a.eval y).cells.size = n := by rw [← Array.length_toList, concL_length hc, hb]
        simp only [execOp, ho, e3, Instr.storeAt, Instr.sureAddr, storeVar, Sem.run_bind, Sem.run_pure, Result.andThen_ok, hsz, hs, ne_eq, not_true_eq_false, if_false, g1]
      · simp at hst
    · simp at hst
  · simp at hv

theorem zeros_at (zero : Array Value) (n i : Nat) (h : i < n) (_hz : zero.size ≠ 0) : ((Array.range n).map (zero[· % zero.size]!))[i]? = zero[i % zero.size]? := by
  have hm : i % zero.size < zero.size := Nat.mod_lt _ (by omega)
  simp [h, hm]
theorem rc_zeros {t : TypeId} {z : V} {zv : Value} (_hz : zeroOf k.p t = some z) (hzv : conc θ z = some zv) (hl : z.cells.length = k.p.cellsOf t) (n : Nat) (θ' : Th) (hle : θ.le θ') :
    RC θ' (n * k.p.cellsOf t) (C.zeros z.cells n (k.p.cellsOf t)) ((Array.range (n * k.p.cellsOf t)).map ((if n * k.p.cellsOf t = 0 then #[] else zv.cells)[· % (if n * k.p.cellsOf t = 0 then #[] else zv.cells).size]!)) := by
  have hc := conc_cells (conc_le hle _ _ hzv)
  have hs := concL_size hc
  refine ⟨by simp, ?_, fun i v hi hv => ?_⟩
  · have := C.zeros_fits z.cells n
    rw [hl] at this; exact this
  · have hne : ¬ n * k.p.cellsOf t = 0 := by omega
    have hne2 : k.p.cellsOf t ≠ 0 := fun e => hne (by rw [e]; simp)
    rw [← hl, C.zeros_get _ _ _ (by rw [hl]; exact hi)] at hv
    obtain ⟨x, hx, hx'⟩ := concL_get hc hv
    refine ⟨x, hx, ?_⟩
    simp only [hne, if_false]
    rw [zeros_at _ _ _ hi (by rw [hs, hl]; exact hne2), hs, ← hx']
    simp
theorem elemOfT_spec {P : Program} {t e : TypeId} (h : elemOfT P t = some e) : P.underlying t = some (.slice e) := by
  unfold elemOfT at h
  split at h
  · simp only [Option.some.injEq] at h; subst h; assumption
  · simp at h
theorem info_size {P : Program} {t : TypeId} {i : TypeInfo} (h : P.info? t = some i) : (sizeOf t).run P w = .ok (P.cellsOf t) w := by simp [sizeOf, run_info h, Program.cellsOf, h]
theorem run_zeroIf {t : TypeId} {zv : Value} (h : (zeroValue t).run k.p w = .ok zv w) (n : Nat) : (if n = 0 then pure #[] else do pure (← zeroValue t).cells : Sem (Array Value)).run k.p w = .ok (if n = 0 then #[] else zv.cells) w := by
  split <;> simp [h]
theorem l_buildSlice {t : TypeId} {len : Nat} {parts : Array (Nat × Operand)} {v : V} (ho : o.op = .buildSlice t len parts) (E : Ops θ s a) (hi : Inv Φ θ s.h w) (hv : evL0 k s o = some (.val v h')) : VOk k.p Φ θ w a o v h' := by
  simp only [evL0, ho] at hv
  split at hv
  · rename_i e he
    have hu := elemOfT_spec he
    split at hv
    · rename_i z hz
      obtain ⟨i, zv, h1, h2, rfl, h4, h5⟩ := zeroOf_spec (w := w) hz
      obtain ⟨hb, hv⟩ := bif_some hv
      have hb : len * k.p.cellsOf e ≤ 16777216 := Nat.le_of_ble_eq_true hb
      split at hv
      · rename_i c hc
        simp only [Option.some.injEq, R.val.injEq] at hv
        obtain ⟨rfl, rfl⟩ := hv
        have hle := le_new hi ⟨w.heap.size, 0, 0⟩
        have hps := parts_ops E parts.toList
        have hmap : (parts.map fun (i, x) => (i, a.eval x)).toList = parts.toList.map fun (i, x) => (i, a.eval x) := by simp
        obtain ⟨cells', g1, g2⟩ := fill_sound (place' := fun i => some (i * k.p.cellsOf e, k.p.cellsOf e)) (fun i r hr => hr) hps (rc_zeros hz (conc_ofConst θ zv) h4 len θ (Th.le_refl _)) hc
        have hb' : ¬ len * k.p.cellsOf e > 2 ^ 24 := by omega
        refine ⟨θ.ins s.h.n ⟨w.heap.size, 0, 0⟩, .slice (some ⟨w.heap.size, 0, none⟩) len len, w.alloc (.cells cells' e), hle, ?_, by rw [conc_new_sl]; simp, ?_⟩
        · by_cases h0 : len * k.p.cellsOf e = 0
          · simp only [if_pos h0] at g1
            simp only [execOp, ho, Instr.buildSlice, Sem.run_bind, run_und hu, info_size h1, hb', if_false, if_pos h0, Result.andThen_ok, hmap, g1, newRow, run_newObj_alloc, Sem.run_pure]
          · simp only [if_neg h0] at g1
            simp only [execOp, ho, Instr.buildSlice, Sem.run_bind, run_und hu, info_size h1, hb', if_false, if_neg h0, h5, Result.andThen_ok, hmap, g1, newRow, run_newObj_alloc, Sem.run_pure]
        · exact hi.add (ok_cells (heap_new _ _) rfl (by rw [g2.size]; exact Nat.le_of_eq (by simp)) g2.fits fun i v hi hv => by
            obtain ⟨x, hx, hx'⟩ := g2.get i v hi hv
            exact ⟨x, conc_le hle _ _ hx, hx'⟩)
      · simp at hv
    · simp at hv
  · simp at hv
theorem l_makeSlice {t : TypeId} {l c : Operand} {v : V} (ho : o.op = .makeSlice t l c) (E : Ops θ s a) (hi : Inv Φ θ s.h w) (hv : evL0 k s o = some (.val v h')) : VOk k.p Φ θ w a o v h' := by
  simp only [evL0, ho] at hv
  split at hv
  · rename_i e ln cn he hln hcn
    have hu := elemOfT_spec he
    obtain ⟨kl, el⟩ := natOf_spec hln (E l)
    obtain ⟨kc, ec⟩ := natOf_spec hcn (E c)
    split at hv
    · rename_i z hz
      obtain ⟨i, zv, h1, h2, rfl, h4, h5⟩ := zeroOf_spec (w := w) hz
      obtain ⟨hb, hv⟩ := bif_some hv
      simp only [Bool.and_eq_true] at hb
      have b1 : ln ≤ cn := Nat.le_of_ble_eq_true hb.1.1
      have b2 : cn ≤ 16777216 := Nat.le_of_ble_eq_true hb.1.2
      have b3 : cn * k.p.bytesOf e ≤ 1000000000 := Nat.le_of_ble_eq_true hb.2
      simp only [Option.some.injEq, R.val.injEq] at hv
      obtain ⟨rfl, rfl⟩ := hv
      have hle := le_new hi ⟨w.heap.size, 0, 0⟩
      have hrc := rc_zeros hz (conc_ofConst θ zv) h4 cn _ hle
      have hbytes : k.p.bytesOf e = i.bytes := by simp [Program.bytesOf, h1]
      have wl : IntKind.i64.wrap (ln : Int) = ln := by simp [IntKind.wrap, IntKind.signed, IntKind.bits]; omega
      have wc : IntKind.i64.wrap (cn : Int) = cn := by simp [IntKind.wrap, IntKind.signed, IntKind.bits]; omega
      have hcond : ((decide ((cn : Int) < 0) || decide ((i.bytes : Int) * (cn : Int) > 2 ^ 48)) || decide ((ln : Int) < 0) || decide ((ln : Int) > (cn : Int))) = false := by
        rw [hbytes] at b3
        have : (i.bytes : Int) * (cn : Int) ≤ 1000000000 := by
          have : ((cn * i.bytes : Nat) : Int) ≤ 1000000000 := by omega
          rw [Int.mul_comm]; simpa using this
        simp
        omega
      refine ⟨θ.ins s.h.n ⟨w.heap.size, 0, 0⟩, .slice (some ⟨w.heap.size, 0, none⟩) ln cn, w.alloc (.cells ((Array.range (cn * k.p.cellsOf e)).map ((if cn * k.p.cellsOf e = 0 then #[] else zv.cells)[· % (if cn * k.p.cellsOf e = 0 then #[] else zv.cells).size]!)) e), hle, ?_, by rw [conc_new_sl]; simp, ?_⟩
      · simp only [execOp, ho, el, ec, Instr.makeSlice, Sem.run_bind, run_und hu, asInt, asIntOf, Sem.run_pure, Result.andThen_ok, run_info h1, wl, wc]
        rw [hcond]
        by_cases h0 : cn * k.p.cellsOf e = 0
        · simp only [Bool.false_eq_true, if_false, Sem.run_pure, Result.andThen_ok, run_askRoom, info_size h1, Int.toNat_natCast, if_pos h0, newRow, Sem.run_bind, run_newObj_alloc]
        · simp only [Bool.false_eq_true, if_false, Sem.run_pure, Result.andThen_ok, run_askRoom, info_size h1, Int.toNat_natCast, if_neg h0, h5, newRow, Sem.run_bind, run_newObj_alloc]
      · exact hi.add (ok_cells (heap_new _ _) rfl (by rw [hrc.size]; exact Nat.le_of_eq (by simp)) hrc.fits hrc.get)
    · simp at hv
  · simp at hv
theorem l_makeMap {t : TypeId} {r : Option Operand} {v : V} (ho : o.op = .makeMap t r) (E : Ops θ s a) (hi : Inv Φ θ s.h w) (hv : evL0 k s o = some (.val v h')) : VOk k.p Φ θ w a o v h' := by
  have hle := le_new hi ⟨w.heap.size, 0, 0⟩
  have fin : v = .mp s.h.n → h' = s.h.add (.map [] 0) → (execOp a.eval o).run k.p w = .ok (.value (.map (some w.heap.size))) (w.alloc (.map #[] 0)) → VOk k.p Φ θ w a o v h' := by
    rintro rfl rfl hrun
    exact ⟨_, _, _, hle, hrun, by simp [conc, Th.ins_self], hi.add ⟨rfl, #[], heap_new _ _, .nil⟩⟩
  simp only [evL0, ho] at hv
  split at hv
  · simp only [Option.some.injEq, R.val.injEq] at hv
    refine fin hv.1.symm hv.2.symm ?_
    simp only [execOp, ho, Instr.makeMap, Sem.run_bind, Option.map_none, run_newObj_alloc, Sem.run_pure, Result.andThen_ok]
  · rename_i r
    split at hv
    · rename_i kt e kk n hu e1
      simp only [Option.some.injEq, R.val.injEq] at hv
      refine fin hv.1.symm hv.2.symm ?_
      have hx := E r
      rw [e1] at hx
      simp only [execOp, ho, Instr.makeMap, Sem.run_bind, Option.map_some, run_und hu, conc_int hx, asInt, asIntOf, run_newObj_alloc, Sem.run_pure, Result.andThen_ok]
    · simp at hv
end Go.Proofs.YtnboghpebjciaaaGreatDoor.Ev

namespace Go.Proofs.YtnboghpebjciaaaGreatDoor.Ev
variable [Sym]
variable {k : K} {h h' : H} {s : S} {a : Act} {θ : Th} {w : World} {o : Oper} {Φ : Fr}

/-! Objects that are put anew. -/
def notCells : Obj → Prop
  | .cells .. => False
  | _ => True
theorem run_setObj {P : Program} {r : Nat} {x : Obj} (y : Obj) (h : w.heap[r]? = some x) (hx : notCells x) : (setObj r y).run P w = .ok () (w.putObj r y) := by
  cases x <;> simp_all [setObj, Sem.run, World.putObj, notCells]
theorem run_getObj {P : Program} {r : Nat} {x : Obj} (h : w.heap[r]? = some x) (hx : notCells x) : (getObj r).run P w = .ok x w := by
  cases x <;> simp_all [getObj, Sem.run, notCells]
theorem Inv.put (hi : Inv Φ θ h w) {b : Nat} {o o' : O} {L : Loc} {y : Obj} (hb : h.t.get b = some o) (hL : θ b = some L) (ho : (w.putObj L.blk y).heap[L.blk]? = some y → OkO θ L (w.putObj L.blk y) o') :
    Inv Φ θ (h.set b o') (w.putObj L.blk y) :=
  hi.turn hb hL rfl rfl rfl (by simp) (fun _ hk => World.putObj_heap_other hk) (ho (World.putObj_heap_same (hi.far b L hL).1))

theorem flat_bits (n : Nat) {v : V} {x : Value} (hf : flat v = true) (e : conc θ v = some x) : Instr.sameBits n x x = true := by
  cases v <;> simp [flat] at hf
  · rw [conc_bool e]; cases n <;> simp [Instr.sameBits]
  · rw [conc_int e]; cases n <;> simp [Instr.sameBits]
  · rename_i u
    have hb : ((⟨⟨u⟩⟩ : ByteArray) == ⟨⟨u⟩⟩) = true := (MapKept.bytes_beq _ _).2 rfl
    rw [conc_str e]; cases n <;> simp [Instr.sameBits, hb]
theorem flats_bits (n : Nat) : ∀ {l : List V} {xs : List Value}, l.all flat = true → concL θ l = some xs → ((xs.zip xs).all fun (x, y) => Instr.sameBits n x y) = true
  | [], xs, _, e => by simp [concL] at e; subst e; rfl
  | v :: vs, xs, hl, e => by
    obtain ⟨y, ys, h1, h2, rfl⟩ := concL_cons.1 e
    simp only [List.all_cons, Bool.and_eq_true] at hl
    simp only [List.zip_cons_cons, List.all_cons, Bool.and_eq_true]
    exact ⟨flat_bits n hl.1 h1, flats_bits n hl.2 h2⟩
theorem plain_bits (n : Nat) {v : V} {x : Value} (hp : plainV v = true) (e : conc θ v = some x) : Instr.sameBits (n + 1) x x = true := by
  cases v with
  | agg l =>
    obtain ⟨xs, h1, rfl⟩ := conc_agg e
    simp only [plainV] at hp
    simp only [Instr.sameBits, beq_self_eq_true, Bool.true_and]
    exact flats_bits n hp h1
  | _ => exact flat_bits (n + 1) (by simpa [plainV] using hp) e

theorem OkEs.at {es : List (V × V × Nat)} {fs : List MapEntry} (ho : OkEs θ es fs) : ∀ {i : Nat} {x : V × V × Nat}, es[i]? = some x → ∃ e, fs[i]? = some e ∧ OkE θ x e := by
  induction ho with
  | nil => intro i x h; simp at h
  | cons hx _ ih =>
    intro i x h
    cases i with
    | zero => simp at h; subst h; exact ⟨_, by simp, hx⟩
    | succ i => simpa using ih (by simpa using h)
theorem OkEs.set {es : List (V × V × Nat)} {fs : List MapEntry} (ho : OkEs θ es fs) {x : V × V × Nat} {f : MapEntry → MapEntry} : ∀ {i : Nat}, (∀ e, fs[i]? = some e → OkE θ x (f e)) → OkEs θ (es.set i x) (fs.modify i f) := by
  induction ho with
  | nil => intro i _; simpa using OkEs.nil
  | cons hx hs ih =>
    intro i h
    cases i with
    | zero => simpa using OkEs.cons (h _ (by simp)) hs
    | succ i => simpa using OkEs.cons hx (ih fun e he => h e (by simpa using he))
theorem OkEs.push {es : List (V × V × Nat)} {fs : List MapEntry} (ho : OkEs θ es fs) {x : V × V × Nat} {e : MapEntry} (hx : OkE θ x e) : OkEs θ (es ++ [x]) (fs ++ [e]) := by
  induction ho with
  | nil => exact .cons hx .nil
  | cons h0 _ ih => exact .cons h0 ih
theorem OkEs.erase {es : List (V × V × Nat)} {fs : List MapEntry} (ho : OkEs θ es fs) : ∀ {i : Nat}, OkEs θ (es.eraseIdx i) (fs.eraseIdx i) := by
  induction ho with
  | nil => intro i; simpa using OkEs.nil
  | cons hx hs ih =>
    intro i
    cases i with
    | zero => simpa using hs
    | succ i => simpa using OkEs.cons hx ih

theorem l_update {t : TypeId} {m key x : Operand} (ho : o.op = .mapUpdate t m key x ∨ o.op = .insert t m key x) (E : Ops θ s a) (hi : Inv Φ θ s.h w) {r : R} (hv : evL0 k s o = some r) :
    ∃ h', r = .skip h' ∧ SOk k.p Φ θ w a o h' := by
  have hv : evL0 k s { o with op := .mapUpdate t m key x } = some r := by
    rcases ho with ho | ho <;> · rw [← hv]; simp only [evL0, ho]
  have hex : execOp a.eval o = (do Instr.mapUpdate t (a.eval m) (a.eval key) (a.eval x); pure .skip) := by
    rcases ho with ho | ho <;> simp only [execOp, ho]
  clear ho
  simp only [evL0] at hv
  split at hv
  · rename_i kt et b hu e1
    have hm := E m
    rw [e1] at hm
    obtain ⟨L, hL, e3⟩ := conc_mp hm
    split at hv
    · rename_i es clock hg
      obtain ⟨L', hL', h0, fs, h1, h2⟩ := hi.rel b _ hg
      rw [hL] at hL'; cases hL'
      have hobj : (getObj L.blk).run k.p w = .ok (.map fs clock) w := run_getObj h1 trivial
      have hc := (bif_none hv).1
      replace hv := (bif_none hv).2
      have hc : chkV k.p (Nat.succ eqDepth) kt (s.ev key) = true := by simpa using hc
      obtain ⟨kd, hkd⟩ := chk_und hc
      have hck := chkV_sound (P := k.p) (w := w) false _ _ _ _ hc (E key)
      have hck : (Instr.checkKey false 10000 kt (a.eval key)).run k.p w = .ok () w := hck
      split at hv
      · simp at hv
      · rename_i i old y born hf
        obtain ⟨rr, hr, z, hz, rfl⟩ := findKey_sound (w := w) hkd (E key) h2 hf
        have hb := (bif_some hv).1
        replace hv := (bif_some hv).2
        simp only [Option.some.injEq] at hv
        subst hv
        simp only [Bool.and_eq_true] at hb
        have hold := beq_eq _ _ hb.1
        obtain ⟨_, hes⟩ := findE_get hf
        rw [Nat.sub_zero] at hes
        obtain ⟨e, he, g1, g2, g3⟩ := h2.at hes
        have hke : e.key = a.eval key := by
          have := E key
          rw [← hold] at this
          rw [this] at g1
          exact (Option.some.inj g1).symm
        have hsb : Instr.sameBits 10000 (a.eval key) (a.eval key) = true := plain_bits 9999 hb.2 (by rw [hold]; exact E key)
        have hka : ((fs[i]?).map (·.key)).getD (a.eval key) = a.eval key := by
          have : fs[i]? = some e := by rw [← Array.getElem?_toList]; exact he
          rw [this]; exact hke
        refine ⟨_, rfl, w.putObj L.blk (.map (fs.modify i fun e => { e with key := a.eval key, val := a.eval x }) clock), ?_, ?_⟩
        · rw [hex]
          simp only [Instr.mapUpdate, e3, Sem.run_bind, run_und hu, Result.andThen_ok, hobj, hck, hr, hka, Instr.keyThatStays, hsb, if_true, Sem.run_pure, run_setObj _ h1 trivial]
        · refine hi.put hg hL fun hh => ⟨h0, _, hh, ?_⟩
          rw [setNth_eq, Array.toList_modify]
          exact h2.set fun e' he' => by
            rw [he] at he'; cases he'
            exact ⟨E key, E x, g3⟩
      · rename_i hf
        obtain ⟨rr, hr, rfl⟩ := findKey_sound (w := w) hkd (E key) h2 hf
        simp only [Option.some.injEq] at hv
        subst hv
        refine ⟨_, rfl, w.putObj L.blk (.map (fs.push { key := a.eval key, val := a.eval x, born := clock }) (clock + 1)), ?_, ?_⟩
        · rw [hex]
          simp only [Instr.mapUpdate, e3, Sem.run_bind, run_und hu, Result.andThen_ok, hobj, hck, hr, Sem.run_pure, run_setObj _ h1 trivial]
        · refine hi.put hg hL fun hh => ⟨h0, _, hh, ?_⟩
          rw [Array.toList_push]
          exact h2.push ⟨E key, E x, rfl⟩
    · simp at hv
  · simp at hv

theorem l_range {t : TypeId} {x : Operand} {v : V} (ho : o.op = .range t x) (E : Ops θ s a) (hi : Inv Φ θ s.h w) (hv : evL0 k s o = some (.val v h')) : VOk k.p Φ θ w a o v h' := by
  have hx := E x
  have hle := le_new hi ⟨w.heap.size, 0, 0⟩
  simp only [evL0, ho] at hv
  split at hv
  · rename_i b hu e1
    rw [e1] at hx
    simp only [Option.some.injEq, R.val.injEq] at hv
    obtain ⟨rfl, rfl⟩ := hv
    refine ⟨_, _, w.alloc (.stringIter ⟨⟨b⟩⟩ 0), hle, ?_, conc_new _ _ _ _, hi.add ⟨rfl, heap_new _ _⟩⟩
    simp only [execOp, ho, Instr.range, Sem.run_bind, run_und hu, Result.andThen_ok, conc_str hx, Sem.run_pure, run_newObj_alloc, Nat.add_zero]
  · rename_i hu e1
    rw [e1] at hx
    simp only [Option.some.injEq, R.val.injEq] at hv
    obtain ⟨rfl, rfl⟩ := hv
    refine ⟨_, _, w.alloc (.mapIter none 0 #[] 0), hle, ?_, conc_new _ _ _ _, hi.add ⟨rfl, none, heap_new _ _, rfl⟩⟩
    simp only [execOp, ho, Instr.range, Sem.run_bind, run_und hu, Result.andThen_ok, conc_mnil hx, Sem.run_pure, run_newObj_alloc, Nat.add_zero]
  · rename_i m hu e1
    rw [e1] at hx
    obtain ⟨L, hL, e3⟩ := conc_mp hx
    split at hv
    · rename_i es clock hg
      obtain ⟨L', hL', h0, fs, h1, h2⟩ := hi.rel m _ hg
      rw [hL] at hL'; cases hL'
      have hobj : (getObj L.blk).run k.p w = .ok (.map fs clock) w := run_getObj h1 trivial
      simp only [Option.some.injEq, R.val.injEq] at hv
      obtain ⟨rfl, rfl⟩ := hv
      refine ⟨_, _, w.alloc (.mapIter (some L.blk) clock #[] clock), hle, ?_, conc_new _ _ _ _, hi.add ⟨rfl, _, heap_new _ _, L, hle _ _ hL, rfl⟩⟩
      simp only [execOp, ho, Instr.range, Sem.run_bind, run_und hu, Result.andThen_ok, e3, hobj, Sem.run_pure, run_newObj_alloc, Nat.add_zero]
    · simp at hv
  · simp at hv
end Go.Proofs.YtnboghpebjciaaaGreatDoor.Ev

namespace Go.Proofs.YtnboghpebjciaaaGreatDoor.Ev
variable [Sym]
variable {k : K} {h h' : H} {s : S} {a : Act} {θ : Th} {w w' : World} {o : Oper} {Φ : Fr}

theorem Inv.stay (hi : Inv Φ θ h w) {b : Nat} {o : O} {L : Loc} (hb : h.t.get b = some o) (hL : θ b = some L) (h1 : w'.os = w.os) (h2 : w'.tape = w.tape) (h3 : w'.output = w.output) (hs : w'.heap.size = w.heap.size)
    (hk : ∀ k, k ≠ L.blk → w'.heap[k]? = w.heap[k]?) (ho : OkO θ L w' o) : Inv Φ θ h w' :=
  (hi.turn hb hL h1 h2 h3 hs hk ho).sub (fun c o' e => by
    simp only [H.set, Tr.get_set]
    by_cases hc : c = b
    · subst hc; rw [hb] at e; rw [if_pos rfl]; exact e
    · rw [if_neg hc]; exact e) (Nat.le_refl _)

theorem freeze_heap {r n : Nat} {arr : Array Value} {el : TypeId} {lo hi : Nat} (h : w.heap[r]? = some (.cells arr el (lo, hi))) :
    (w.freeze ⟨r, n, none⟩ 1).heap[r]? = some (.cells arr el (if lo == hi then (n, n + 1) else (min lo n, max hi (n + 1)))) := by
  simp [World.freeze, Array.getElem?_modify, h]
theorem freeze_other {r n c : Nat} (h : c ≠ r) : (w.freeze ⟨r, n, none⟩ 1).heap[c]? = w.heap[c]? := by
  simp [World.freeze, Array.getElem?_modify, Ne.symm h]
theorem run_mark {P : Program} {r off : Nat} {arr : Array Value} {el : TypeId} {fz : Nat × Nat} (h : w.heap[r]? = some (.cells arr el fz)) :
    (markStringish ⟨r, off, none⟩).run P w = .ok () (w.freeze ⟨r, arr.size, none⟩ 1) := by
  have : w.shape? r = some (el, arr.size) := by simp [World.shape?, h]
  simp [markStringish, this]
theorem Inv.mark (hi : Inv Φ θ h w) {b n : Nat} {c : C} {z : Nat} {L : Loc} (hb : h.t.get b = some (.cells n c z)) (hL : θ b = some L) {P : Program} (off : Nat) :
    ∃ w', (markStringish ⟨L.blk, off, none⟩).run P w = .ok () w' ∧ Inv Φ θ h w' := by
  obtain ⟨L', hL', arr, el, lo, hi', h1, h2, h3, h4, h5⟩ := hi.rel b _ hb
  rw [hL] at hL'; cases hL'
  refine ⟨_, run_mark h1, hi.stay hb hL rfl rfl rfl (by simp [World.freeze]) (fun _ hk => freeze_other hk) ?_⟩
  have hf := freeze_heap (n := arr.size) h1
  by_cases hlh : lo = hi'
  · subst hlh
    simp only [beq_self_eq_true, if_true] at hf
    exact ⟨arr, el, _, _, hf, .inr (Nat.le_refl _), h3, h4, h5⟩
  · have : (lo == hi') = false := by simpa using hlh
    simp only [this, Bool.false_eq_true, if_false] at hf
    exact ⟨arr, el, _, _, hf, .inr (by omega), h3, h4, h5⟩

theorem Inv.add2 (hi : Inv Φ θ h w) {o : O} {obj : Obj} {L : Loc} (hl : L.blk = w.heap.size) (ho : OkO (θ.ins h.n L) L (w.alloc obj) o) :
    Inv Φ (θ.ins h.n L) (h.add o) (w.alloc obj) := by
  obtain ⟨blk, off, ext⟩ := L
  simp only at hl; subst hl
  exact hi.add ho

theorem conc_byte (θ : Th) (c : UInt8) : conc θ (.int .u8 (.ofNat c.toNat)) = some (.int .u8 c.toNat) := by simp [conc]
theorem concL_bytes (θ : Th) : ∀ b : List UInt8, concL θ (b.map fun c => .int .u8 (.ofNat c.toNat)) = some (b.map fun c => Value.int .u8 c.toNat)
  | [] => concL_nil θ
  | c :: b => concL_cons.2 ⟨_, _, conc_byte θ c, concL_bytes θ b, rfl⟩

theorem l_convert {src dst : TypeId} {x : Operand} {v : V} (ho : o.op = .convert src dst x) (E : Ops θ s a) (hi : Inv Φ θ s.h w) (hv : evL0 k s o = some (.val v h')) : VOk k.p Φ θ w a o v h' := by
  have hx := E x
  simp only [evL0, ho] at hv
  split at hv
  · rename_i e b hs hd e1
    rw [e1] at hx
    split at hv
    · rename_i hu
      have hb := (bif_some hv).1
      replace hv := (bif_some hv).2
      have hb := Nat.eq_of_beq_eq_true hb
      simp only [Option.some.injEq, R.val.injEq] at hv
      obtain ⟨rfl, rfl⟩ := hv
      let cap := grownCap w b.length 0 e
      have hcap : b.length ≤ cap := grownCap_ge _ _ _ _
      let L : Loc := ⟨w.heap.size, 0, cap - b.length⟩
      have hle := le_new hi L
      let arr : Array Value := (⟨b⟩ : Array UInt8).map (fun c => Value.int .u8 c.toNat) ++ Array.replicate (cap - b.length) (.int .u8 0)
      have hi2 : Inv Φ (θ.ins s.h.n L) (s.h.add (.cells b.length (.ofList (b.map fun c => .int .u8 (.ofNat c.toNat))) 1)) (w.drew.alloc (.cells arr e)) := by
        refine hi.drew.add2 rfl (ok_cells (heap_new _ _) rfl (by simp [arr, L]) (by simpa using C.ofList_fits (b.map fun c => V.int .u8 (.ofNat c.toNat))) fun i v hin hv => ?_)
        rw [C.ofList_get _ _ (by simpa using hin)] at hv
        obtain ⟨x, hx, hx'⟩ := concL_get (concL_bytes (θ.ins s.h.n L) b) hv
        refine ⟨x, hx, ?_⟩
        simp only [arr]
        rw [Array.getElem?_append_left (by simpa using hin), ← hx']
        simp
      obtain ⟨w2, hm, hi3⟩ := hi2.mark (P := k.p) (b := s.h.n) (L := L) (by simp only [H.add, Tr.get_set, if_true]; rfl) (Th.ins_self _ _ _) 0
      refine ⟨θ.ins s.h.n L, .slice (some ⟨w.heap.size, 0, none⟩) b.length cap, w2, hle, ?_, ?_, hi3⟩
      · have hm : (markStringish ⟨w.heap.size, 0, none⟩).run k.p (w.drew.alloc (.cells arr e)) = .ok () w2 := hm
        simp only [execOp, ho, convert, Sem.run_bind, run_und hs, run_und hd, run_und hu, Result.andThen_ok, conc_str hx, Conv.stringToBytes, run_choose_drew, Question.forced, Bool.false_eq_true, if_false, newRow, run_newObj_alloc, Sem.run_pure, size_mk]
        show ((Sem.run k.p (markStringish ⟨w.heap.size, 0, none⟩) (w.drew.alloc (.cells arr e))).andThen _).andThen _ = _
        rw [hm]
        rfl
      · rw [conc_new_sl]
        simp only [L, if_true]
        congr 2
        omega
    · simp at hv
  · rename_i t1 e b off len cap op hs hd e1
    rw [e1] at hx
    obtain ⟨L, hL, e3⟩ := conc_sl hx
    split at hv
    · rename_i m c z hu hg
      have hb := (bif_some hv).1
      replace hv := (bif_some hv).2
      have hb := Nat.eq_of_beq_eq_true hb
      subst hb
      simp only [Option.some.injEq, R.val.injEq] at hv
      obtain ⟨rfl, rfl⟩ := hv
      obtain ⟨w2, hm, hi3⟩ := hi.mark (P := k.p) hg hL (L.off + off)
      refine ⟨θ, a.eval x, w2, Th.le_refl _, ?_, hx, hi3⟩
      rw [hs] at hd; cases hd
      simp only [execOp, ho, convert, Sem.run_bind, run_und hs, Result.andThen_ok, e3, beq_self_eq_true, run_und hu, hm, Sem.run_pure]
    · simp at hv
  · simp at hv

theorem seenIn_eq (b : Nat) : ∀ l : List Nat, seenIn l b = l.contains b
  | [] => rfl
  | x :: xs => by
    simp only [seenIn, List.contains_cons]
    cases hb : Nat.beq x b with
    | true => have := Nat.eq_of_beq_eq_true hb; subst this; simp
    | false =>
      have : (b == x) = false := by
        cases hc : b == x with
        | false => rfl
        | true => have := beq_iff_eq.1 hc; subst this; simp at hb
      rw [this, Bool.false_or]; exact seenIn_eq b xs
end Go.Proofs.YtnboghpebjciaaaGreatDoor.Ev

namespace Go.Proofs.YtnboghpebjciaaaGreatDoor.Ev
variable [Sym]
variable {k : K} {h h' : H} {s : S} {a : Act} {θ : Th} {w w' : World} {o : Oper} {Φ : Fr}

theorem OkEs.filter {es : List (V × V × Nat)} {fs : List MapEntry} (ho : OkEs θ es fs) (p : Nat → Bool) : OkEs θ (es.filter fun e => p e.2.2) (fs.filter fun e => p e.born) := by
  induction ho with
  | nil => exact .nil
  | cons hx _ ih =>
    obtain ⟨h1, h2, h3⟩ := hx
    simp only [List.filter_cons, h3]
    split
    · exact .cons ⟨h1, h2, h3⟩ ih
    · exact ih
theorem OkEs.all {es : List (V × V × Nat)} {fs : List MapEntry} (ho : OkEs θ es fs) (p : Nat → Bool) : (es.all fun e => p e.2.2) = fs.all fun e => p e.born := by
  induction ho with
  | nil => rfl
  | cons hx _ ih => simp only [List.all_cons, hx.2.2, ih]
theorem OkEs.at' {es : List (V × V × Nat)} {fs : List MapEntry} (ho : OkEs θ es fs) : ∀ {i : Nat} {e : MapEntry}, fs[i]? = some e → ∃ x, es[i]? = some x ∧ OkE θ x e := by
  induction ho with
  | nil => intro i x h; simp at h
  | cons hx _ ih =>
    intro i x h
    cases i with
    | zero => simp at h; subst h; exact ⟨_, by simp, hx⟩
    | succ i => simpa using ih (by simpa using h)

theorem decode_ascii {b : List UInt8} {pos : Nat} {c : UInt8} (hn : b[pos]? = some c) (hc : c.toNat < 128) : Utf8.decode ⟨⟨b⟩⟩ pos = (c.toNat, 1) := by
  have : (ByteArray.mk ⟨b⟩).get! pos = c := by
    show (⟨b⟩ : Array UInt8)[pos]! = c
    rw [getElem!_def]
    simp [hn]
  simp only [Utf8.decode, Nat.add_zero, this]
  rw [if_pos (by exact hc)]

theorem run_mapNext {P : Program} (w : World) (n : Nat) (h : 0 < n) : ∃ i w', (choose (.mapNext n)).run P w = .ok i w' ∧ i < n ∧ (w' = w ∨ w' = w.drew) := by
  rw [run_choose_drew]
  split
  · exact ⟨0, w, rfl, h, .inl rfl⟩
  · refine ⟨_, w.drew, rfl, ?_, .inr rfl⟩
    simp only [Question.cut]
    exact Nat.mod_lt _ h

def NOk (P : Program) (Φ : Fr) (θ : Th) (w : World) (a : Act) (o : Oper) : R → Prop
  | .val v h => VOk P Φ θ w a o v h
  | .vals l => ∃ v h, (v, h) ∈ l ∧ VOk P Φ θ w a o v h
  | _ => False
theorem l_next {x : Operand} {isS : Bool} {r : R} (ho : o.op = .next x isS) (E : Ops θ s a) (hi : Inv Φ θ s.h w) (hv : evL0 k s o = some r) : NOk k.p Φ θ w a o r := by
  have hx := E x
  simp only [evL0, ho] at hv
  split at hv
  · rename_i b e1
    rw [e1] at hx
    obtain ⟨L, hL, e3⟩ := conc_ptr hx
    split at hv
    · rename_i b' pos hg
      obtain ⟨L', hL', h0, h1⟩ := hi.rel b _ hg
      rw [hL] at hL'; cases hL'
      rw [h0] at e3
      have hobj : (getObj L.blk).run k.p w = .ok (.stringIter ⟨⟨b'⟩⟩ pos) w := run_getObj h1 trivial
      split at hv
      · rename_i hn
        rw [nth_eq] at hn
        have hn : ¬ pos < b'.length := by simpa using List.getElem?_eq_none_iff.1 hn
        simp only [Option.some.injEq] at hv
        subst hv
        refine ⟨θ, .tuple #[.bool false], w, Th.le_refl _, ?_, by simp [conc, concL], hi⟩
        simp only [execOp, ho, e3, Instr.next, Nat.add_zero, Sem.run_bind, hobj, Result.andThen_ok, size_mk, if_neg hn, Sem.run_pure]
      · rename_i c hn
        rw [nth_eq] at hn
        have hlt : pos < b'.length := (List.getElem?_eq_some_iff.1 hn).1
        have hb := (bif_some hv).1
        replace hv := (bif_some hv).2
        have hb : c.toNat < 128 := Nat.lt_of_succ_le (Nat.le_of_ble_eq_true hb)
        simp only [Option.some.injEq] at hv
        subst hv
        refine ⟨θ, .tuple #[.bool true, goInt pos, .int .i32 c.toNat], w.putObj L.blk (.stringIter ⟨⟨b'⟩⟩ (pos + 1)), Th.le_refl _, ?_, by simp [conc, concL, goInt], hi.put hg hL fun hh => ⟨h0, hh⟩⟩
        simp only [execOp, ho, e3, Instr.next, Nat.add_zero, Sem.run_bind, hobj, Result.andThen_ok, size_mk, if_pos hlt, decode_ascii hn hb, run_setObj _ h1 trivial, Sem.run_pure]
    · rename_i s1 s2 s3 hg
      obtain ⟨L', hL', h0, m', h1, rfl⟩ := hi.rel b _ hg
      rw [hL] at hL'; cases hL'
      rw [h0] at e3
      have hobj : (getObj L.blk).run k.p w = .ok (.mapIter none s1 ⟨s2⟩ s3) w := run_getObj h1 trivial
      simp only [Option.some.injEq] at hv
      subst hv
      refine ⟨θ, .tuple #[.bool false], w, Th.le_refl _, ?_, by simp [conc, concL], hi⟩
      simp only [execOp, ho, e3, Instr.next, Nat.add_zero, Sem.run_bind, hobj, Result.andThen_ok, Sem.run_pure]
    · rename_i m since seen last hg
      obtain ⟨L', hL', h0, m', h1, M, hM, rfl⟩ := hi.rel b _ hg
      rw [hL] at hL'; cases hL'
      rw [h0] at e3
      have hobj : (getObj L.blk).run k.p w = .ok (.mapIter (some M.blk) since ⟨seen⟩ last) w := run_getObj h1 trivial
      split at hv
      · rename_i es clock hgm
        obtain ⟨M', hM', h0m, fs, h2, h3⟩ := hi.rel m _ hgm
        rw [hM] at hM'; cases hM'
        have hobj2 : (getObj M.blk).run k.p w = .ok (.map fs clock) w := run_getObj h2 trivial
        have hg1 := (bif_none hv).1
        replace hv := (bif_none hv).2
        have hbad : (!(⟨seen⟩ : Array Nat).isEmpty && !fs.isEmpty && fs.all (fun e => decide (e.born ≥ last))) = false := by
          have e1 : (⟨seen⟩ : Array Nat).isEmpty = seen.isEmpty := by cases seen <;> simp
          have e2 : fs.isEmpty = es.isEmpty := by
            have := h3.length
            have h4 : fs.isEmpty = fs.toList.isEmpty := by simp
            rw [h4]
            cases es <;> cases hfs : fs.toList <;> simp_all
          have e4 : fs.all (fun e => decide (e.born ≥ last)) = es.all (fun e => Nat.ble last e.2.2) := by
            rw [← Array.all_toList, h3.all (fun n => Nat.ble last n)]
            congr 1
            funext e
            simp
            cases hh : last.ble e.born
            · simp; rw [← Nat.not_le]; intro hc; rw [Nat.ble_eq_true_of_le hc] at hh; cases hh
            · simpa using Nat.le_of_ble_eq_true hh
          rw [e1, e2, e4]; exact hg1
        have hleft : (fs.filter fun e => !(⟨seen⟩ : Array Nat).contains e.born).toList = fs.toList.filter fun e => !seenIn seen e.born := by
          rw [Array.toList_filter]
          congr 1
          funext e
          rw [seenIn_eq]; simp
        have hok := h3.filter fun n => !seenIn seen n
        rw [← hleft] at hok
        split at hv
        · rename_i hf
          rw [hf] at hok
          simp only [Option.some.injEq] at hv
          subst hv
          have hl0 : (fs.filter fun e => !(⟨seen⟩ : Array Nat).contains e.born) = #[] := by
            apply Array.ext'
            have := hok.length
            simpa using this
          refine ⟨θ, .tuple #[.bool false], w, Th.le_refl _, ?_, by simp [conc, concL], hi⟩
          simp only [execOp, ho, e3, Instr.next, Nat.add_zero, Sem.run_bind, hobj, Result.andThen_ok, hobj2, hbad, Bool.false_eq_true, if_false, hl0]
          simp [Question.forced]
        · rename_i l hne
          have hall := (bif_some hv).1
          replace hv := (bif_some hv).2
          simp only [Option.some.injEq] at hv
          subst hv
          generalize hle : (fs.filter fun e => !(⟨seen⟩ : Array Nat).contains e.born) = left at hok
          rw [hok.all fun n => Nat.blt n since] at hall
          have hlt : ∀ e ∈ left, e.born < since := fun e he => by
            have := List.all_eq_true.1 hall e (by simpa using he)
            exact Nat.lt_of_succ_le (Nat.le_of_ble_eq_true this)
          have hold : left.filter (fun e => decide (e.born < since)) = left := by
            rw [Array.filter_eq_self]; intro e he; simpa using hlt e he
          have hnew : left.filter (fun e => decide (e.born ≥ since)) = #[] := by
            rw [Array.filter_eq_empty_iff]; intro e he; have := hlt e he; simp; omega
          have hpos : 0 < left.size := by
            have := hok.length
            rw [Array.length_toList] at this
            rw [this]
            cases hl : List.filter (fun e => !seenIn seen e.2.2) es with
            | nil => exact absurd hl hne
            | cons => simp
          have hne0 : left.isEmpty = false := by
            simp only [Array.isEmpty, decide_eq_false_iff_not]; omega
          obtain ⟨i, w1, hr1, hi1, hw1⟩ := run_mapNext (P := k.p) w left.size hpos
          have hiw : Inv Φ θ s.h w1 := by rcases hw1 with rfl | rfl; exact hi; exact hi.drew
          have hhw : w1.heap = w.heap := by rcases hw1 with rfl | rfl <;> rfl
          obtain ⟨x', hx', hox⟩ := hok.at' (i := i) (e := left[i]) (by simp [hi1])
          obtain ⟨g1, g2, g3⟩ := hox
          refine ⟨_, _, List.mem_map.2 ⟨x', List.mem_of_getElem? hx', rfl⟩, θ, .tuple #[.bool true, left[i].key, left[i].val], w1.putObj L.blk (.mapIter (some M.blk) since ((⟨seen⟩ : Array Nat).push left[i].born) clock), Th.le_refl _, ?_, ?_, ?_⟩
          · have hset := run_setObj (P := k.p) (w := w1) (r := L.blk) (x := .mapIter (some M.blk) since ⟨seen⟩ last) (.mapIter (some M.blk) since ((⟨seen⟩ : Array Nat).push left[i].born) clock) (by rw [hhw]; exact h1) trivial
            simp only [execOp, ho, e3, Instr.next, Nat.add_zero, Sem.run_bind, hobj, Result.andThen_ok, hobj2, hbad, Bool.false_eq_true, if_false, hle, hold, hnew, hne0, Array.append_empty, Array.empty_append, Array.size_map, hr1, Array.getElem?_map, Array.getElem?_eq_getElem hi1, Option.map_some, hset, Sem.run_pure]
          · simp [conc, concL, g1, g2]
          · refine hiw.put hg hL fun hh => ⟨h0, _, by rw [hh]; rw [g3]; simp, M, hM, rfl⟩
      · simp at hv
    · simp at hv
  · simp at hv
end Go.Proofs.YtnboghpebjciaaaGreatDoor.Ev

namespace Go.Proofs.YtnboghpebjciaaaGreatDoor.Ev
variable [Sym]
variable {k : K} {h h' : H} {s : S} {a : Act} {θ : Th} {w w' : World} {o : Oper} {Φ : Fr}

theorem size_of_cellsOf {P : Program} {e : TypeId} {z : Nat} (h : szOf P e = some z) : z = P.cellsOf e ∧ (sizeOf e).run P w = .ok z w := ⟨(szOf_spec (w := w) h).1, (szOf_spec h).2.1⟩

/-- What `append` asks of the second argument's type. -/
def noInt : TypeDesc → Bool
  | .int _ => false
  | _ => true
theorem app_grow {P : Program} {t t2 e ty : TypeId} {d : TypeDesc} {ts : Array TypeId} {z n sLen sCap : Nat} {base : Option Addr} {x zv : Value} {olds news : Array Value}
    (ht : ts[0]? = some t) (ht2 : ts[1]? = some t2) (hu : P.underlying t = some (.slice e)) (hd : P.underlying t2 = some d) (hn : noInt d = true) (hz : szOf P e = some z) {i : TypeInfo} (hinf : P.info? e = some i)
    (hzv : ∀ w : World, (zeroValue e).run P w = .ok zv w) (hlen : ∀ w : World, (Builtin.lenOf x).run P w = .ok n w)
    (ho : (Builtin.firstCells z sLen (.slice base sLen sCap)).run P w.drew = .ok olds w.drew) (hw : (Builtin.firstCells z n x).run P w.drew = .ok news w.drew)
    (hg : sCap < sLen + n) (hb : (sLen + n) * P.bytesOf e ≤ 1000000000) (hm : sLen + n ≤ 1000000000) :
    (Builtin.append_ ts ty ⟨[.slice base sLen sCap, x]⟩).run P w =
      .ok (.slice (some ⟨w.heap.size, 0, none⟩) (sLen + n) (grownCap w (sLen + n) sCap e)) (w.drew.alloc (.cells (olds ++ news ++ Builtin.zeroCells zv.cells (grownCap w (sLen + n) sCap e - (sLen + n))) e)) := by
  have hsz : ∀ w : World, (sizeOf e).run P w = .ok z w := fun w => (size_of_cellsOf hz).2
  have hbytes : P.bytesOf e = i.bytes := by simp [Program.bytesOf, hinf]
  rw [hbytes] at hb
  have a0 : (⟨[.slice base sLen sCap, x]⟩ : Array Value)[0]? = some (.slice base sLen sCap) := rfl
  have a1 : (⟨[.slice base sLen sCap, x]⟩ : Array Value)[1]? = some x := rfl
  have h1 : ¬ sLen + n ≤ sCap := by omega
  have h2 : ¬ (((sLen + n : Nat) : Int) > IntKind.i64.max ∧ (False ∨ i.bytes = 0)) := by
    have : IntKind.i64.max = 9223372036854775807 := by decide
    rw [this]; omega
  have h3 : ¬ (Builtin.nextslicecap (sLen + n) sCap * i.bytes > 2 ^ 48) := by
    have := Nat.mul_le_mul_right i.bytes (nextslicecap_le hg)
    rw [Nat.mul_assoc] at this
    omega
  cases d with
  | int => simp [noInt] at hn
  | _ =>
    simp only [Builtin.append_, ht, ht2, a0, a1, Sem.run_bind, run_und hu, run_und hd, hsz, hlen, h1, if_false, h2, h3, run_info hinf, Result.andThen_ok, Sem.run_pure, Bool.false_eq_true]
    simp only [Sem.run_bind, Result.andThen_ok, if_false, run_choose_drew, Question.forced, Bool.false_eq_true, run_askRoom, ho, Bool.not_false, if_true, hw, hzv, newRow, run_newObj_alloc, Sem.run_pure]
    rfl

theorem app_room {P : Program} {t t2 e ty : TypeId} {d : TypeDesc} {ts : Array TypeId} {z n sLen sCap : Nat} {b : Addr} {x : Value} {news : List Value}
    (ht : ts[0]? = some t) (ht2 : ts[1]? = some t2) (hu : P.underlying t = some (.slice e)) (hd : P.underlying t2 = some d) (hn : noInt d = true) (hz : szOf P e = some z)
    (hlen : (Builtin.lenOf x).run P w = .ok n w) (hw : (Builtin.firstCells z n x).run P w = .ok ⟨news⟩ w) (hg : sLen + n ≤ sCap) (hs : (storeCells (b.add (sLen * z)) news).run P w = .ok () w') :
    (Builtin.append_ ts ty ⟨[.slice (some b) sLen sCap, x]⟩).run P w = .ok (.slice (some b) (sLen + n) sCap) w' := by
  have hsz := (size_of_cellsOf (w := w) hz).2
  cases d with
  | int => simp [noInt] at hn
  | _ =>
    simp only [Builtin.append_, ht, ht2, show (⟨[.slice (some b) sLen sCap, x]⟩ : Array Value)[0]? = some (.slice (some b) sLen sCap) from rfl, show (⟨[.slice (some b) sLen sCap, x]⟩ : Array Value)[1]? = some x from rfl,
      Sem.run_bind, run_und hu, run_und hd, hsz, hlen, hg, if_true, if_false, Bool.false_eq_true, Bool.not_false, hw, hs, Result.andThen_ok, Sem.run_pure]

theorem app_none {P : Program} {t t2 e ty : TypeId} {d : TypeDesc} {ts : Array TypeId} {z : Nat} {x : Value} {news : Array Value}
    (ht : ts[0]? = some t) (ht2 : ts[1]? = some t2) (hu : P.underlying t = some (.slice e)) (hd : P.underlying t2 = some d) (hn : noInt d = true) (hz : szOf P e = some z)
    (hlen : (Builtin.lenOf x).run P w = .ok 0 w) (hw : (Builtin.firstCells z 0 x).run P w = .ok news w) :
    (Builtin.append_ ts ty ⟨[.slice none 0 0, x]⟩).run P w = .ok (.slice none 0 0) w := by
  have hsz := (size_of_cellsOf (w := w) hz).2
  cases d with
  | int => simp [noInt] at hn
  | _ =>
    simp only [Builtin.append_, ht, ht2, show (⟨[.slice none 0 0, x]⟩ : Array Value)[0]? = some (.slice none 0 0) from rfl, show (⟨[.slice none 0 0, x]⟩ : Array Value)[1]? = some x from rfl,
      Sem.run_bind, run_und hu, run_und hd, hsz, hlen, Nat.add_zero, Nat.le_refl, if_true, if_false, Bool.false_eq_true, Bool.not_false, hw, Result.andThen_ok, Sem.run_pure]

theorem row_ok {θ' : Th} {L : Loc} {w : World} {m z : Nat} {l : List V} {xs : List Value} {rest : Array Value} {e : TypeId} (hc : concL θ' l = some xs) (hl : l.length = m) (h0 : L.off = 0)
    (hw : w.heap[L.blk]? = some (.cells (⟨xs⟩ ++ rest) e (0, 0))) (hz : L.ext * z ≤ rest.size) : OkO θ' L w (.cells m (.ofList l) z) := by
  refine ok_cells hw h0 ?_ (by rw [← hl]; exact C.ofList_fits l) fun i v hi hv => ?_
  · have := concL_length hc
    simp; omega
  · rw [C.ofList_get _ _ (by omega)] at hv
    obtain ⟨x, hx, hx'⟩ := concL_get hc hv
    refine ⟨x, hx, ?_⟩
    have hi' : i < xs.length := (List.getElem?_eq_some_iff.1 hx').1
    rw [Array.getElem?_append_left (by simpa using hi'), ← hx']
    simp

theorem append_sound {t t2 e ty : TypeId} {d : TypeDesc} {ts : Array TypeId} {z n : Nat} {u y : V} {p q : Value} {new : List V} {r : R}
    (ht : ts[0]? = some t) (ht2 : ts[1]? = some t2) (hu : k.p.underlying t = some (.slice e)) (hd : k.p.underlying t2 = some d) (hn : noInt d = true) (hz : szOf k.p e = some z)
    (hp : conc θ u = some p) (hq : conc θ y = some q) (hl : lenS y = some n) (hf : firstC z n h y = some new) (hi : Inv Φ θ h w) (hr : append k.p e z h u new n = some r) :
    ∃ v h', r = .val v h' ∧ ∃ θ' x w', θ.le θ' ∧ (Builtin.append_ ts ty ⟨[p, q]⟩).run k.p w = .ok x w' ∧ conc θ' v = some x ∧ Inv Φ θ' h' w' := by
  obtain ⟨hzc, _⟩ := size_of_cellsOf (w := w) hz
  have news : ∀ w', HRel θ h w' → ∃ xs, (Builtin.firstCells z n q).run k.p w' = .ok ⟨xs⟩ w' ∧ concL θ new = some xs ∧ (Builtin.lenOf q).run k.p w' = .ok n w' := fun w' hr => by
    obtain ⟨xs, h1, h2, _, h4⟩ := firstC_sound (P := k.p) hr hq hl (Nat.le_refl _) hf
    exact ⟨xs, h1, h2, h4⟩
  have hlen : ∀ w' : World, (Builtin.lenOf q).run k.p w' = .ok n w' := fun w' => by
    obtain ⟨_, _, _, _, h4⟩ := firstC_sound (P := k.p) hi.rel hq hl (Nat.le_refl _) hf
    cases q <;> simp [Builtin.lenOf] at h4 ⊢ <;> exact h4
  unfold append at hr
  split at hr
  · rw [conc_snil hp]
    cases hn0 : Nat.beq n 0 with
    | true =>
      rw [hn0] at hr
      simp only [cond_true, Option.some.injEq] at hr
      have hn0 := Nat.eq_of_beq_eq_true hn0
      subst hn0
      obtain ⟨xs, h1, h2, h3⟩ := news w hi.rel
      exact ⟨_, _, hr.symm, θ, _, w, Th.le_refl _, app_none ht ht2 hu hd hn hz h3 h1, by simp [conc], hi⟩
    | false =>
      rw [hn0] at hr
      simp only [cond_false] at hr
      have hn0 : n ≠ 0 := by rintro rfl; simp at hn0
      have hb := (bif_some hr).1
      replace hr := (bif_some hr).2
      simp only [Bool.and_eq_true] at hb
      have b1 : n * k.p.bytesOf e ≤ 1000000000 := Nat.le_of_ble_eq_true hb.1.1
      have b2 : n ≤ 1000000000 := Nat.le_of_ble_eq_true hb.1.2
      have b3 : new.length = n * z := Nat.eq_of_beq_eq_true hb.2
      split at hr
      · rename_i zz hzz
        obtain ⟨i, zv, g1, g2, rfl, g4, _⟩ := zeroOf_spec (w := w) hzz
        have g5 : ∀ w : World, (zeroValue e).run k.p w = .ok zv w := fun w => by
          obtain ⟨i', zv', g1', g2', _, _, g5'⟩ := zeroOf_spec (w := w) hzz
          rw [g1] at g1'; cases g1'; rw [g2] at g2'; cases g2'; exact g5'
        simp only [Option.some.injEq] at hr
        obtain ⟨xs, h1, h2, h3⟩ := news w.drew hi.drew.rel
        have hrun := app_grow (ty := ty) (sLen := 0) (sCap := 0) (base := none) ht ht2 hu hd hn hz g1 g5 hlen (olds := #[]) (by simp [Builtin.firstCells]) h1 (by omega) (by simpa using b1) (by simpa using b2)
        simp only [Nat.zero_add, Array.empty_append] at hrun
        let L : Loc := ⟨w.heap.size, 0, grownCap w n 0 e - n⟩
        have hle := le_new hi L
        refine ⟨_, _, hr.symm, θ.ins h.n L, _, _, hle, hrun, ?_, hi.drew.add2 rfl (row_ok (concL_le hle _ _ h2) b3 rfl (heap_new _ _) ?_)⟩
        · rw [conc_new_sl]
          simp only [L, if_true]
          have := grownCap_ge w n 0 e
          congr 2; omega
        · rw [size_zeroCells]
          have := concL_size (conc_cells (conc_ofConst θ zv))
          rw [this, g4, ← hzc]
          exact Nat.le_refl _
      · simp at hr
  · rename_i b off len cap op
    obtain ⟨L, hL, rfl⟩ := conc_sl hp
    cases hcap : Nat.ble (Nat.add len n) cap with
    | true =>
      rw [hcap] at hr
      simp only [cond_true] at hr
      have hcap : len + n ≤ cap := Nat.le_of_ble_eq_true hcap
      split at hr
      · rename_i h1 hst
        simp only [Option.some.injEq] at hr
        obtain ⟨xs, g1, g2, g3⟩ := news w hi.rel
        obtain ⟨w', q1, q2⟩ := storeC_sound (P := k.p) hi hst g2 hL
        refine ⟨_, _, hr.symm, θ, _, w', Th.le_refl _, app_room (ty := ty) ht ht2 hu hd hn hz g3 g1 (by omega) ?_, ?_, q2⟩
        · rw [add_eq, Nat.add_assoc]; exact q1
        · simp [conc, hL]
      · simp at hr
    | false =>
      rw [hcap] at hr
      simp only [cond_false] at hr
      have hcap : ¬ len + n ≤ cap := fun hc => by have : Nat.ble (Nat.add len n) cap = true := Nat.ble_eq_true_of_le hc; rw [this] at hcap; cases hcap
      split at hr
      · rename_i old zz m cc y' hold hzz hg
        obtain ⟨i, zv, g1, g2, rfl, g4, _⟩ := zeroOf_spec (w := w) hzz
        have g5 : ∀ w : World, (zeroValue e).run k.p w = .ok zv w := fun w => by
          obtain ⟨i', zv', g1', g2', _, _, g5'⟩ := zeroOf_spec (w := w) hzz
          rw [g1] at g1'; cases g1'; rw [g2] at g2'; cases g2'; exact g5'
        have hb := (bif_some hr).1
        replace hr := (bif_some hr).2
        simp only [Bool.and_eq_true] at hb
        obtain ⟨⟨⟨b1, b2⟩, b3⟩, b4⟩ := hb
        have b1 : (len + n) * k.p.bytesOf e ≤ 1000000000 := Nat.le_of_ble_eq_true b1
        have b2 : len + n ≤ 1000000000 := Nat.le_of_ble_eq_true b2
        have b3 : new.length = n * z := Nat.eq_of_beq_eq_true b3
        simp only [Option.some.injEq] at hr
        have hlS : lenS (.sl b off len cap op) = some len := rfl
        obtain ⟨olds, o1, o2, o3, _⟩ := firstC_sound (P := k.p) hi.rel hp hlS (Nat.le_refl _) hold
        obtain ⟨olds', o1', o2', _⟩ := firstC_sound (P := k.p) hi.drew.rel hp hlS (Nat.le_refl _) hold
        rw [o2] at o2'; cases o2'
        have o3 : olds.length = len * z := by
          rcases o3 with o3 | ⟨⟨s, hs⟩, _⟩
          · exact o3
          · cases hs
        have o4 : old.length = len * z := by rw [← o3, concL_length o2]
        have grow : cap + (if op = true then L.ext else 0) < len + n → (op = false ∨ op = true) → ∀ hh : H, Inv Φ θ hh w → hh.n = h.n →
            ∃ θ' x w', θ.le θ' ∧ (Builtin.append_ ts ty ⟨[.slice (some ⟨L.blk, L.off + off, none⟩) len (cap + if op = true then L.ext else 0), q]⟩).run k.p w = .ok x w' ∧
              conc θ' (.sl h.n 0 (Nat.add len n) (Nat.add len n) true) = some x ∧ Inv Φ θ' (hh.add (.cells (Nat.mul (Nat.add len n) z) (.ofList (old ++ new)) z)) w' := by
          intro hlt _ hh hih hnn
          obtain ⟨xs, h1, h2, h3⟩ := news w.drew hi.drew.rel
          have hrun := app_grow (ty := ty) ht ht2 hu hd hn hz g1 g5 hlen o1' h1 hlt b1 b2
          let L' : Loc := ⟨w.heap.size, 0, grownCap w (len + n) (cap + if op = true then L.ext else 0) e - (len + n)⟩
          have hle := le_new hih L'
          refine ⟨θ.ins hh.n L', _, _, hle, hrun, ?_, ?_⟩
          · rw [← hnn, conc_new_sl]
            simp only [L', if_true]
            have := grownCap_ge w (len + n) (cap + if op = true then L.ext else 0) e
            have e1 : Nat.add len n = len + n := rfl
            rw [e1]
            congr 2; omega
          · refine hih.drew.add2 rfl (row_ok (xs := olds ++ xs) (concL_append (concL_le hle _ _ o2) (concL_le hle _ _ h2)) ?_ rfl ?_ (e := e) (rest := Builtin.zeroCells zv.cells (grownCap w (len + n) (cap + if op = true then L.ext else 0) e - (len + n))) ?_)
            · show _ = (len + n) * z
              rw [List.length_append, o4, b3, Nat.add_mul]
            · refine (heap_new _ _).trans ?_
              congr 3
              simp
            · rw [size_zeroCells]
              have := concL_size (conc_cells (conc_ofConst θ zv))
              rw [this, g4, ← hzc]
              exact Nat.le_refl _
        cases op with
        | false =>
          simp only [cond_false] at hr
          obtain ⟨θ', x, w', q1, q2, q3, q4⟩ := grow (by simp; omega) (.inl rfl) h hi rfl
          exact ⟨_, _, hr.symm, θ', x, w', q1, q2, q3, q4⟩
        | true =>
          simp only [cond_true] at hr
          simp only [Bool.not_true, Bool.false_or, Bool.and_eq_true] at b4
          obtain ⟨⟨b5, b6⟩, b7⟩ := b4
          have b5 : off + cap * z = m := Nat.eq_of_beq_eq_true b5
          have b6 : y' = z := Nat.eq_of_beq_eq_true b6
          subst b6
          by_cases hroom : len + n ≤ cap + L.ext
          · obtain ⟨L', hL', arr, el, lo, hi', p1, p2, p3, p4, p5⟩ := hi.rel b _ hg
            rw [hL] at hL'; cases hL'
            obtain ⟨xs, h1, h2, h3⟩ := news w hi.rel
            have hxl : xs.length = n * y' := by rw [concL_length h2, b3]
            have hext : (len + n) * y' + (cap + L.ext - (len + n)) * y' = cap * y' + L.ext * y' := by
              rw [← Nat.add_mul, ← Nat.add_mul]; congr 1; omega
            rw [Nat.add_mul] at hext
            obtain ⟨w', q1, q2, q3, q4, q5, q6, arr', q7, q8, q9⟩ := run_stores (P := k.p) xs w L.blk (L.off + off + len * y') 0 arr el lo hi' p1 p2 (by rw [hxl]; omega) (scalars_one b7 h2)
            have hidel : Inv Φ θ (h.del b) w := hi.del b
            let L' : Loc := ⟨L.blk, L.off + off, cap + L.ext - (len + n)⟩
            have hi2 : Inv Φ θ (h.del b) w' := by
              refine ⟨fun c o' e => ?_, ⟨fun c x e => ?_, q4.trans hi.fr.2.1, q5.trans hi.fr.2.2.1, q6.trans hi.fr.2.2.2⟩, fun c M e => ?_, hidel.apart, hidel.next⟩
              · obtain ⟨M, r1, r2⟩ := hidel.rel c o' e
                obtain ⟨hcb, hc⟩ := H.del_get e
                exact ⟨M, r1, r2.keep (Th.le_refl _) (q3 _ (hi.apart c b o' _ M L hc hg r1 hL hcb))⟩
              · rw [q3 c (fun hh => by subst hh; rw [(hi.far b L hL).2] at e; cases e)]
                exact hi.fr.1 c x e
              · rw [q2]; exact hi.far c M e
            have hle := le_new hi2 L'
            refine ⟨_, _, hr.symm, θ.ins (h.del b).n L', _, w', hle, app_room (ty := ty) ht ht2 hu hd hn hz h3 h1 (by simpa using hroom) ?_, ?_, hi2.take ?_ ?_ ?_ ?_⟩
            · rw [add_eq]; exact q1
            · show conc (θ.ins h.n L') _ = _
              rw [conc_new_sl]
              have e1 : Nat.add len n = len + n := rfl
              simp only [L', if_true, e1, Nat.add_zero]
              congr 2; omega
            · show L.blk < _; rw [q2]; exact (hi.far b L hL).1
            · exact (hi.far b L hL).2
            · intro c o' M hc hM
              obtain ⟨hcb, hc⟩ := H.del_get hc
              exact hi.apart c b o' _ M L hc hg hM hL hcb
            · refine ⟨arr', el, lo, hi', q7, by rw [q8]; exact p2, ?_, ?_, fun j v hj hv => ?_⟩
              · show L.off + off + (len + n) * y' + (cap + L.ext - (len + n)) * y' ≤ arr'.size
                rw [q8, Nat.add_mul]; omega
              · have := C.ofList_fits (old ++ new)
                rw [List.length_append, o4, b3, ← Nat.add_mul] at this
                exact this
              · have hj : j < (len + n) * y' := hj
                rw [Nat.add_mul] at hj
                rw [C.ofList_get _ _ (by rw [List.length_append, o4, b3]; omega)] at hv
                show ∃ x, _ ∧ arr'[L.off + off + j]? = some x
                rw [q9]
                by_cases hjo : j < len * y'
                · rw [List.getElem?_append_left (by omega)] at hv
                  obtain ⟨x, hx, hx'⟩ := concL_get o2 hv
                  refine ⟨x, conc_le hle _ _ hx, ?_⟩
                  rw [if_neg (by omega)]
                  have hrange : cc.range off (len * y') = some old := by
                    have := hold
                    simp only [firstC, hg] at this
                    exact (bif_some this).2
                  have hle2 : off + len * y' ≤ m := by
                    have := hold
                    simp only [firstC, hg] at this
                    exact Nat.le_of_ble_eq_true (bif_some this).1
                  obtain ⟨xs0, r1, r2, r3⟩ := range_conc hrange hle2 p5
                  rw [o2] at r1; cases r1
                  rw [r3 j hjo, hx']
                · rw [List.getElem?_append_right (by omega)] at hv
                  obtain ⟨x, hx, hx'⟩ := concL_get h2 hv
                  refine ⟨x, conc_le hle _ _ hx, ?_⟩
                  rw [if_pos (by omega), ← hx']
                  congr 1; omega
          · obtain ⟨θ', x, w', r1, r2, r3, r4⟩ := grow (by simp; omega) (.inr rfl) (h.del b) (hi.del b) rfl
            exact ⟨_, _, hr.symm, θ', x, w', r1, r2, r3, r4⟩
      · simp at hr
  · simp at hr
end Go.Proofs.YtnboghpebjciaaaGreatDoor.Ev

namespace Go.Proofs.YtnboghpebjciaaaGreatDoor.Ev
variable [Sym]
variable {k : K} {h h' : H} {s : S} {a : Act} {θ : Th} {w w' : World} {o : Oper} {Φ : Fr}

def extFn : Ext → Array Value → Sem Value
  | .indexByte => Extern.BytealgIndexByte.indexByte
  | .count => Extern.BytealgCount.count
  | .compare => Extern.BytealgCompare.compare
/-- What is to be known of a program's table, beside what is run. -/
structure K.Ok (k : K) : Prop where
  ng : ∀ (f : FuncId) (fd : Func), k.p.funcs[f]? = some fd → (fd.name == "runtime.NumGoroutine") = false
  ex : ∀ (f : FuncId) (e : Ext) (fd : Func), k.ex f = some e → k.p.funcs[f]? = some fd → fd.body = none → Extern.findNext fd = none ∧ Extern.find fd = some (extFn e)

theorem run_loadBytes {P : Program} {blk : Nat} {arr : Array Value} {el : TypeId} {fz : Nat × Nat} (hw : w.heap[blk]? = some (.cells arr el fz)) : ∀ (ns : List Int) (off : Nat) (acc : ByteArray),
    (∀ (j : Nat), j < ns.length → arr[off + j]? = (ns.map (Value.int .u8))[j]?) → (Extern.Bytes.loadBytes ⟨blk, off, none⟩ ns.length acc).run P w = .ok ⟨⟨acc.data.toList ++ ns.map fun n => UInt8.ofNat n.toNat⟩⟩ w
  | [], off, acc, _ => by simp [Extern.Bytes.loadBytes]
  | n :: ns, off, acc, h => by
    have h0 := h 0 (by simp)
    simp at h0
    have hl : (load ⟨blk, off, none⟩).run P w = .ok (.int .u8 n) w := by
      have : w.cell? ⟨blk, off, none⟩ = some (.int .u8 n) := by rw [cell_of hw]; exact h0
      simp [this]
    have ih := run_loadBytes (P := P) hw ns (off + 1) (acc.push n.toNat.toUInt8) fun j hj => by
      have := h (j + 1) (by simpa using hj)
      rw [Nat.add_assoc, Nat.add_comm 1 j]; simpa using this
    simp only [List.length_cons, Extern.Bytes.loadBytes, Sem.run_bind, hl, Result.andThen_ok, add_eq, ih]
    congr 3
    simp [Nat.toUInt8]

theorem strs_back {bs : List UInt8} {ns : List Int} (h : (bs.map fun b => Value.int .u8 (.ofNat b.toNat)) = ns.map (Value.int .u8)) : bs = ns.map fun n => UInt8.ofNat n.toNat := by
  have : ns = bs.map fun b => Int.ofNat b.toNat := by
    induction bs generalizing ns with
    | nil => cases ns <;> simp_all
    | cons b bs ih =>
      cases ns with
      | nil => simp at h
      | cons n ns =>
        simp only [List.map_cons, List.cons.injEq, Value.int.injEq, true_and] at h
        simp only [List.map_cons, List.cons.injEq]
        exact ⟨h.1.symm, ih h.2⟩
  rw [this, List.map_map]
  refine (List.map_id bs).symm.trans (List.map_congr_left fun b _ => ?_)
  simp

theorem bytesOf_sound {P : Program} {n : Nat} {v : V} {vs : List V} {bs : List UInt8} {x : Value} (hr : HRel θ h w) (hv : conc θ v = some x) (hl : lenS v = some n) (hf : firstC 1 n h v = some vs) (hs : strOf vs = some bs) :
    (Extern.Bytes.bytesOf x).run P w = .ok ⟨⟨bs⟩⟩ w := by
  unfold firstC at hf
  split at hf
  · simp only [Option.some.injEq] at hf; subst hf
    simp [strOf] at hs; subst hs
    rw [conc_snil hv]
    rfl
  · have hn := Nat.eq_of_beq_eq_true (bif_some hf).1
    replace hf := (bif_some hf).2
    simp only [Option.some.injEq] at hf; subst hf
    simp [strOf] at hs; subst hs
    obtain ⟨L, _, rfl⟩ := conc_e0 hv
    simp [Extern.Bytes.bytesOf, Extern.Bytes.loadBytes]; rfl
  · rename_i b off len cap op
    simp only [lenS, Option.some.injEq] at hl; subst hl
    split at hf
    · rename_i q c z hg
      obtain ⟨hb, hf⟩ := bif_some hf
      obtain ⟨L, hL, arr, el, lo, hi, h1, h2, h3, h4, h5⟩ := hr b _ hg
      obtain ⟨L', hL', rfl⟩ := conc_sl hv
      rw [hL] at hL'; cases hL'
      have hb : off + len * 1 ≤ q := Nat.le_of_ble_eq_true hb
      obtain ⟨xs, g1, g2, g3⟩ := range_conc hf hb h5
      obtain ⟨ns, e4, e5, e6⟩ := strOf_spec hs g1
      have hnl : ns.length = len := by have : xs.length = len * 1 := g2; rw [e4] at this; simpa using this
      have := run_loadBytes (P := P) h1 ns (L.off + off) .empty fun j hj => by
        rw [g3 j (by show j < len * 1; omega), e4]
      rw [hnl] at this
      simp only [Extern.Bytes.bytesOf, this, e6]
      simp [ByteArray.empty, ByteArray.emptyWithCapacity]
      rfl
    · simp at hf
  · rename_i bs'
    simp only [lenS, Option.some.injEq] at hl; subst hl
    simp only [Option.some.injEq, List.take_length] at hf; subst hf
    rw [conc_str hv]
    have hc : concL θ (bs'.map fun b => V.int .u8 (.ofNat b.toNat)) = some (bs'.map fun b => Value.int .u8 (.ofNat b.toNat)) := concL_bytes θ bs'
    obtain ⟨ns, e4, e5, e6⟩ := strOf_spec hs hc
    have := strs_back e4
    simp only [Extern.Bytes.bytesOf, Sem.run_pure]
    rw [e6, ← this]
  · simp at hf

theorem cmp_sound : ∀ x y : List UInt8, Lib.compareBytes x y = (bif ltS x y then -1 else bif eqS x y then 0 else 1)
  | [], [] => rfl
  | [], _ :: _ => rfl
  | _ :: _, [] => rfl
  | a :: x, b :: y => by
    have h1 : (a < b) ↔ a.toNat < b.toNat := UInt8.lt_iff_toNat_lt
    have h2 : (b < a) ↔ b.toNat < a.toNat := UInt8.lt_iff_toNat_lt
    simp only [Lib.compareBytes, ltS, eqS, h1, h2]
    by_cases c1 : a.toNat < b.toNat
    · have : Nat.blt a.toNat b.toNat = true := Nat.ble_eq_true_of_le c1
      simp [c1, this]
    · have b1 : Nat.blt a.toNat b.toNat = false := by
        cases hh : Nat.blt a.toNat b.toNat
        · rfl
        · exact absurd (Nat.le_of_ble_eq_true hh) c1
      by_cases c2 : a.toNat = b.toNat
      · have : Nat.beq a.toNat b.toNat = true := by rw [c2]; simp
        have c3 : ¬ b.toNat < a.toNat := by omega
        simp only [c1, b1, this, c3, if_false, cond_true, cond_false]
        exact cmp_sound x y
      · have : Nat.beq a.toNat b.toNat = false := by
          cases hh : Nat.beq a.toNat b.toNat
          · rfl
          · exact absurd (Nat.eq_of_beq_eq_true hh) c2
        have c3 : b.toNat < a.toNat := by omega
        simp only [c1, b1, this, c3, if_false, if_true, cond_false]

theorem ext_sound {P : Program} {e : Ext} {args : List V} {xs : List Value} {v : V} (hr : HRel θ h w) (ha : concL θ args = some xs) (hv : extV h e args = some v) :
    ∃ x, (extFn e ⟨xs⟩).run P w = .ok x w ∧ conc θ v = some x := by
  unfold extV at hv
  split at hv
  · rename_i bs c
    obtain ⟨x1, r1, h1, h2, rfl⟩ := concL_cons.1 ha
    obtain ⟨x2, r2, h3, h4, rfl⟩ := concL_cons.1 h2
    rw [concL_nil] at h4; cases h4
    simp only [Option.some.injEq] at hv; subst hv
    rw [conc_str h1, conc_int h3]
    exact ⟨_, Lib.run_indexByteString ⟨⟨bs⟩⟩ (.ofNat c) w, by simp [conc]⟩
  · rename_i bs c
    obtain ⟨x1, r1, h1, h2, rfl⟩ := concL_cons.1 ha
    obtain ⟨x2, r2, h3, h4, rfl⟩ := concL_cons.1 h2
    rw [concL_nil] at h4; cases h4
    simp only [Option.some.injEq] at hv; subst hv
    rw [conc_str h1, conc_int h3]
    exact ⟨_, Lib.run_countString ⟨⟨bs⟩⟩ (.ofNat c) w, by simp [conc]⟩
  · rename_i y z
    obtain ⟨x1, r1, h1, h2, rfl⟩ := concL_cons.1 ha
    obtain ⟨x2, r2, h3, h4, rfl⟩ := concL_cons.1 h2
    rw [concL_nil] at h4; cases h4
    split at hv
    · rename_i n m hn hm
      split at hv
      · rename_i p q hp hq
        split at hv
        · rename_i bx by_ hbx hby
          simp only [Option.some.injEq] at hv; subst hv
          have g1 := bytesOf_sound (P := P) hr h1 hn hp hbx
          have g2 := bytesOf_sound (P := P) hr h3 hm hq hby
          refine ⟨.int .i64 (Lib.compareBytes bx by_), ?_, by rw [cmp_sound]; rfl⟩
          change Sem.run P (do pure (goInt (Extern.BytealgCompare.cmp (← Extern.Bytes.bytesOf x1) (← Extern.Bytes.bytesOf x2)))) w = _
          simp only [Sem.run_bind, g1, g2, Result.andThen_ok, Sem.run_pure, Lib.cmp_eq, goInt]
        · simp at hv
      · simp at hv
    · simp at hv
  · simp at hv
end Go.Proofs.YtnboghpebjciaaaGreatDoor.Ev

namespace Go.Proofs.YtnboghpebjciaaaGreatDoor.Ev
variable [Sym]
variable {k : K} {h h' : H} {s : S} {a : Act} {θ : Th} {w w' : World} {o : Oper} {Φ : Fr}

/-- What an operation that is not quiet does. -/
def LOk (P : Program) (Φ : Fr) (θ : Th) (w : World) (a : Act) (o : Oper) (h0 : H) : R → Prop
  | .val v h => VOk P Φ θ w a o v h
  | .vals l => ∃ v h, (v, h) ∈ l ∧ VOk P Φ θ w a o v h
  | .skip h => SOk P Φ θ w a o h
  | .call f args h => h = h0 ∧ ∃ xs, concL θ args = some xs ∧ (execOp a.eval o).run P w = .ok (.enter f ⟨xs⟩) w
  | .yld l args h => h = h0 ∧ ∃ L xs, θ l = some L ∧ concL θ args = some xs ∧ (execOp a.eval o).run P w = (Instr.yield L.blk ⟨xs⟩).run P w
  | .dfr f args => ∃ first cap ys cs, args = first ++ cap ∧ concL θ first = some ys ∧ concL θ cap = some cs ∧ (execOp a.eval o).run P w = .ok (.defer { target := .fn (.func f) ⟨cs⟩, args := ⟨ys⟩ }) w
  | .pan v h => h = h0 ∧ ∃ x, conc θ v = some x ∧ (execOp a.eval o).run P w = .halt (.panic x) w

theorem copy_sound {t e ty : TypeId} {ts : Array TypeId} {z n m : Nat} {u y : V} {p q : Value} {cs : List V}
    (ht : ts[0]? = some t) (hu : k.p.underlying t = some (.slice e)) (hz : szOf k.p e = some z)
    (hp : conc θ u = some p) (hq : conc θ y = some q) (hm : lenS u = some m) (hns : ∀ s, u ≠ .str s) (hl : lenS y = some n) (hf : firstC z (Nat.min n m) h y = some cs) (hi : Inv Φ θ h w)
    (hd : (h' = h ∧ (u = .snil ∨ ∃ b o1 o2, u = .e0 b o1 o2)) ∨ ∃ b off len cap op, u = .sl b off len cap op ∧ storeC h b off cs = some h') :
    ∃ w', (Builtin.copy_ ts ty ⟨[p, q]⟩).run k.p w = .ok (goInt (Nat.min n m)) w' ∧ Inv Φ θ h' w' := by
  obtain ⟨xs, h1, h2, h3, h4⟩ := firstC_sound (P := k.p) hi.rel hq hl (Nat.min_le_left _ _) hf
  have hsz := (size_of_cellsOf (w := w) hz).2
  have a1 : ∀ p : Value, (⟨[p, q]⟩ : Array Value)[0]? = some p := fun _ => rfl
  have a2 : ∀ p : Value, (⟨[p, q]⟩ : Array Value)[1]? = some q := fun _ => rfl
  rcases hd with ⟨rfl, rfl | ⟨b, o1, o2, rfl⟩⟩ | ⟨b, off, len, cap, op, rfl, hst⟩
  · rw [conc_snil hp]
    simp only [lenS, Option.some.injEq] at hm; subst hm
    refine ⟨w, ?_, hi⟩
    simp only [Builtin.copy_, ht, a1, a2, Sem.run_bind, run_und hu, Result.andThen_ok, h4, hsz, h1, Sem.run_pure]
  · obtain ⟨L, hL, rfl⟩ := conc_e0 hp
    simp only [lenS, Option.some.injEq] at hm; subst hm
    have hx : xs = [] := by
      have : xs.length = 0 := by rcases h3 with h3 | ⟨_, h3⟩ <;> simpa using h3
      exact List.length_eq_zero_iff.1 this
    subst hx
    refine ⟨w, ?_, hi⟩
    simp only [Builtin.copy_, ht, a1, a2, Sem.run_bind, run_und hu, Result.andThen_ok, h4, hsz, h1, Sem.run_pure, storeCells]
  · obtain ⟨L, hL, rfl⟩ := conc_sl hp
    simp only [lenS, Option.some.injEq] at hm; subst hm
    obtain ⟨w', q1, q2⟩ := storeC_sound (P := k.p) hi hst h2 hL
    refine ⟨w', ?_, q2⟩
    simp only [Builtin.copy_, ht, a1, a2, Sem.run_bind, run_und hu, Result.andThen_ok, h4, hsz, h1, q1, Sem.run_pure]

theorem clear_cells {z : V} {zv : Value} (n : Nat) (hc : conc θ z = some zv) : concL θ (rep z.cells n) = some (Builtin.zeroCells zv.cells n).toList := by
  have h1 := conc_cells hc
  have h2 := concL_size h1
  refine concL_of ?_ fun i v hv => ?_
  · rw [Array.length_toList, size_zeroCells, rep_length, h2]
  · have hi : i < n * z.cells.length := by rw [← rep_length]; exact (List.getElem?_eq_some_iff.1 hv).1
    rw [rep_get _ _ _ hi] at hv
    obtain ⟨x, hx, hx'⟩ := concL_get h1 hv
    refine ⟨x, hx, ?_⟩
    have hlt : i % zv.cells.size < zv.cells.size := by
      rw [h2]
      exact Nat.mod_lt _ (Nat.pos_of_ne_zero fun h0 => by rw [h0] at hi; omega)
    have hgi : zv.cells[i % zv.cells.size] = x := by
      have h5 := (List.getElem?_eq_some_iff.1 hx').2
      simp only [Array.getElem_toList] at h5
      rw [← h5]
      congr 1
      rw [h2]
    simp only [Builtin.zeroCells, Array.toList_map, Array.toList_range, List.getElem?_map, List.getElem?_range (show i < n * zv.cells.size by rw [h2]; exact hi), Option.map_some]
    rw [← hgi]
    simp [hlt]

def CallOk (P : Program) (θ : Th) (w : World) (d : Deferred) (h : H) : R → Prop
  | .val v h' => h' = h ∧ ∃ x, conc θ v = some x ∧ (invoke d.target d.args).run P w = .ok (.value x) w
  | .call f ar h' => h' = h ∧ ∃ ys, concL θ ar = some ys ∧ (invoke d.target d.args).run P w = .ok (.enter f ⟨ys⟩) w
  | .yld l ar h' => h' = h ∧ ∃ L ys, θ l = some L ∧ concL θ ar = some ys ∧ (invoke d.target d.args).run P w = (Instr.yield L.blk ⟨ys⟩).run P w
  | _ => False
theorem callV_sound (hk : k.Ok) {f : V} {args : List V} {g : Value} {xs : List Value} {r : R} (hi : Inv Φ θ h w) (hf : conc θ f = some g) (ha : concL θ args = some xs) (hr : callV k h f args = some r) :
    ∃ d, (Deferred.ofValue g ⟨xs⟩).run k.p w = .ok d w ∧ CallOk k.p θ w d h r := by
  unfold callV at hr
  split at hr
  · rename_i f first cap
    obtain ⟨g', fs, cs, h1, h2, h3, rfl⟩ := conc_fn hf
    simp only [concFn, Option.some.injEq] at h1; subst h1
    have hall := concL_append (concL_append h2 ha) h3
    refine ⟨{ target := .fn (.func f) ⟨cs⟩, args := ⟨fs⟩ ++ ⟨xs⟩ }, by simp [Deferred.ofValue], ?_⟩
    have hargs : ((⟨fs⟩ : Array Value) ++ ⟨xs⟩) ++ (⟨cs⟩ : Array Value) = ⟨(fs ++ xs) ++ cs⟩ := by simp
    split at hr
    · rename_i fd hfd
      have hng := hk.ng f fd hfd
      split at hr
      · rename_i c hc
        simp only [Option.some.injEq] at hr; subst hr
        refine ⟨rfl, _, hall, ?_⟩
        have hng' : ¬ fd.name = "runtime.NumGoroutine" := by simpa using hng
        simp only [invoke, hargs, callFunc, Sem.run_bind, run_program, Result.andThen_ok, hfd, hng, hc, Bool.false_eq_true, if_false, Option.isNone_some, Sem.run_pure]
      · rename_i hc
        split at hr
        · rename_i e he
          obtain ⟨hn, hfx⟩ := hk.ex f e fd he hfd hc
          split at hr
          · rename_i v hv
            simp only [Option.some.injEq] at hr; subst hr
            obtain ⟨x, hx, hx'⟩ := ext_sound (P := k.p) hi.rel hall hv
            refine ⟨rfl, x, hx', ?_⟩
            simp only [invoke, hargs]
            rw [run_callFunc_extern hfd hng (by simp [hc]) hn hfx, hx]
            rfl
          · simp at hr
        · simp at hr
    · simp at hr
  · rename_i l first cap
    obtain ⟨g', fs, cs, h1, h2, h3, rfl⟩ := conc_fn hf
    simp only [concFn] at h1
    split at h1
    · rename_i L hL
      simp only [Option.some.injEq] at h1; subst h1
      simp only [Option.some.injEq] at hr; subst hr
      refine ⟨{ target := .fn (.yield L.blk) ⟨cs⟩, args := ⟨fs⟩ ++ ⟨xs⟩ }, by simp [Deferred.ofValue], rfl, L, fs ++ xs, hL, concL_append h2 ha, ?_⟩
      have hargs : ((⟨fs⟩ : Array Value) ++ ⟨xs⟩) = ⟨fs ++ xs⟩ := by simp
      simp only [invoke, hargs]
    · simp at h1
  · simp at hr

theorem l_call (hk : k.Ok) {c : Call} {r : R} (ho : o.op = .call c) (E : Ops θ s a) (hi : Inv Φ θ s.h w) (hv : evL0 k s o = some r) : LOk k.p Φ θ w a o s.h r := by
  have hargs := E.list c.args.toList
  have hmap : (c.args.map a.eval) = ⟨c.args.toList.map a.eval⟩ := by apply Array.ext'; simp
  simp only [evL0, ho] at hv
  split at hv
  · rename_i b hb
    obtain ⟨cs, hex⟩ := exec_builtin (k := k) (w := w) (a := a) ho hb
    rw [hmap] at hex
    generalize c.args.toList.map s.ev = us at hv hargs
    generalize c.args.toList.map a.eval = xs at hargs hex
    split at hv
    · -- append
      rename_i x y
      obtain ⟨px, r1, hx, h2, rfl⟩ := concL_cons.1 hargs
      obtain ⟨py, r2, hy, h4, rfl⟩ := concL_cons.1 h2
      rw [concL_nil] at h4; cases h4
      cases ht : c.argTypes[0]? with
      | none =>
        rw [ht] at hv
        simp only [Option.bind_none] at hv
        split at hv <;> simp_all
      | some t =>
        cases ht2 : c.argTypes[1]? with
        | none =>
          rw [ht2] at hv
          simp only [Option.bind_none] at hv
          first | (simp at hv; done) | (split at hv <;> simp_all)
        | some t2 =>
          simp only [ht, ht2, Option.bind_some] at hv
          split at hv
          · simp at hv
          · rename_i e d hne he hd
            have hu := elemOfT_spec he
            have hn : noInt d = true := by
              cases d <;> simp [noInt]
              exact absurd rfl (hne _)
            split at hv
            · rename_i n z hl hz
              split at hv
              · rename_i new hf
                obtain ⟨v, h', rfl, θ', x', w', g1, g2, g3, g4⟩ := append_sound (k := k) (ty := o.type) ht ht2 hu hd hn hz hx hy hl hf hi hv
                exact ⟨θ', x', w', g1, by rw [hex]; simp only [builtin, Sem.run_bind, g2, Result.andThen_ok, Sem.run_pure], g3, g4⟩
              · simp at hv
            · simp at hv
          · simp at hv
    · -- copy
      rename_i x y
      obtain ⟨px, r1, hx, h2, rfl⟩ := concL_cons.1 hargs
      obtain ⟨py, r2, hy, h4, rfl⟩ := concL_cons.1 h2
      rw [concL_nil] at h4; cases h4
      cases ht : c.argTypes[0]? with
      | none => simp [ht] at hv
      | some t =>
        simp only [ht, Option.bind_some] at hv
        split at hv
        · rename_i e m n he hm hn
          have hu := elemOfT_spec he
          split at hv
          · simp at hv
          · rename_i cs' hcs
            cases hz : szOf k.p e with
            | none => simp [hz] at hcs
            | some z =>
              simp only [hz, Option.bind_some] at hcs
              have fin : ∀ h', ((h' = s.h ∧ (x = .snil ∨ ∃ b o1 o2, x = .e0 b o1 o2)) ∨ ∃ b off len cap op, x = .sl b off len cap op ∧ storeC s.h b off cs' = some h') → (∀ s, x ≠ .str s) →
                  LOk k.p Φ θ w a o s.h (.val (.int .i64 (.ofNat (Nat.min n m))) h') := fun h' hd hns => by
                obtain ⟨w', g1, g2⟩ := copy_sound (k := k) (ty := o.type) ht hu hz hx hy hm hns hn hcs hi hd
                exact ⟨θ, goInt (Nat.min n m), w', Th.le_refl _, by rw [hex]; simp only [builtin, Sem.run_bind, g1, Result.andThen_ok, Sem.run_pure], by simp [conc, goInt], g2⟩
              split at hv
              · simp only [Option.some.injEq] at hv; subst hv
                exact fin _ (.inl ⟨rfl, .inl rfl⟩) (by simp)
              · simp only [Option.some.injEq] at hv; subst hv
                exact fin _ (.inl ⟨rfl, .inr ⟨_, _, _, rfl⟩⟩) (by simp)
              · split at hv
                · rename_i h' hst
                  simp only [Option.some.injEq] at hv; subst hv
                  exact fin _ (.inr ⟨_, _, _, _, _, rfl, hst⟩) (by simp)
                · simp at hv
              · simp at hv
        · simp at hv
    · -- clear
      rename_i x
      obtain ⟨px, r1, hx, h2, rfl⟩ := concL_cons.1 hargs
      rw [concL_nil] at h2; cases h2
      have a1 : ∀ p : Value, (⟨[p]⟩ : Array Value)[0]? = some p := fun _ => rfl
      cases ht : c.argTypes[0]? with
      | none => simp [ht] at hv
      | some t =>
        simp only [ht, Option.bind_some] at hv
        have fin : ∀ w' h', (Builtin.clear_ c.argTypes o.type ⟨[px]⟩).run k.p w = .ok (.tuple #[]) w' → Inv Φ θ h' w' → LOk k.p Φ θ w a o s.h (.val (.tup []) h') := fun w' h' g1 g2 =>
          ⟨θ, .tuple #[], w', Th.le_refl _, by rw [hex]; simp only [builtin, Sem.run_bind, g1, Result.andThen_ok, Sem.run_pure], by simp [conc, concL], g2⟩
        split at hv
        · rename_i d hd
          simp only [Option.some.injEq] at hv; subst hv
          refine fin w _ ?_ hi
          rw [conc_mnil hx]
          cases d <;> simp only [Builtin.clear_, ht, a1, Sem.run_bind, run_und hd, Result.andThen_ok, Sem.run_pure]
        · rename_i d hd
          simp only [Option.some.injEq] at hv; subst hv
          refine fin w _ ?_ hi
          rw [conc_snil hx]
          cases d <;> simp only [Builtin.clear_, ht, a1, Sem.run_bind, run_und hd, Result.andThen_ok, Sem.run_pure]
        · rename_i d b o1 o2 hd
          simp only [Option.some.injEq] at hv; subst hv
          obtain ⟨L, _, rfl⟩ := conc_e0 hx
          refine fin w _ ?_ hi
          cases d <;> simp only [Builtin.clear_, ht, a1, Sem.run_bind, run_und hd, Result.andThen_ok, Sem.run_pure]
        · rename_i kt e b hd
          split at hv
          · rename_i es clock hg
            simp only [Option.some.injEq] at hv; subst hv
            obtain ⟨L, hL, rfl⟩ := conc_mp hx
            obtain ⟨L', hL', h0, fs, h1, h2⟩ := hi.rel b _ hg
            rw [hL] at hL'; cases hL'
            have hobj : (getObj L.blk).run k.p w = .ok (.map fs clock) w := run_getObj h1 trivial
            refine fin (w.putObj L.blk (.map #[] clock)) _ ?_ (hi.put hg hL fun hh => ⟨h0, _, hh, .nil⟩)
            simp only [Builtin.clear_, ht, a1, Sem.run_bind, run_und hd, Result.andThen_ok, Sem.run_pure, hobj, run_setObj _ h1 trivial]
          · simp at hv
        · rename_i e b off len cap op hd
          split at hv
          · rename_i z hz
            split at hv
            · rename_i h' hst
              simp only [Option.some.injEq] at hv; subst hv
              obtain ⟨i, zv, g1, g2, rfl, g4, g5⟩ := zeroOf_spec (w := w) hz
              obtain ⟨L, hL, rfl⟩ := conc_sl hx
              obtain ⟨w', q1, q2⟩ := storeC_sound (P := k.p) hi hst (clear_cells len (conc_ofConst θ zv)) hL
              refine fin w' _ ?_ q2
              cases len with
              | zero =>
                have hz0 : (Builtin.zeroCells zv.cells 0).toList = [] := by simp [Builtin.zeroCells]
                simp only [hz0, storeCells, Sem.run_pure, Result.ok.injEq, true_and] at q1
                subst q1
                simp only [Builtin.clear_, ht, a1, Sem.run_bind, run_und hd, Result.andThen_ok, Sem.run_pure]
              | succ n => simp only [Builtin.clear_, ht, a1, Sem.run_bind, run_und hd, Result.andThen_ok, Sem.run_pure, g5, q1]
            · simp at hv
          · simp at hv
        · simp at hv
    · -- delete
      rename_i m key
      obtain ⟨px, r1, hx, h2, rfl⟩ := concL_cons.1 hargs
      obtain ⟨py, r2, hy, h4, rfl⟩ := concL_cons.1 h2
      rw [concL_nil] at h4; cases h4
      have a1 : ∀ p q : Value, (⟨[p, q]⟩ : Array Value)[0]? = some p := fun _ _ => rfl
      have a2 : ∀ p q : Value, (⟨[p, q]⟩ : Array Value)[1]? = some q := fun _ _ => rfl
      cases ht : c.argTypes[0]? with
      | none => simp [ht] at hv
      | some t =>
        simp only [ht, Option.bind_some] at hv
        have fin : ∀ w' h', (Builtin.delete_ c.argTypes o.type ⟨[px, py]⟩).run k.p w = .ok (.tuple #[]) w' → Inv Φ θ h' w' → LOk k.p Φ θ w a o s.h (.val (.tup []) h') := fun w' h' g1 g2 =>
          ⟨θ, .tuple #[], w', Th.le_refl _, by rw [hex]; simp only [builtin, Sem.run_bind, g1, Result.andThen_ok, Sem.run_pure], by simp [conc, concL], g2⟩
        split at hv
        · rename_i kt e b hd
          split at hv
          · rename_i es clock hg
            obtain ⟨L, hL, rfl⟩ := conc_mp hx
            obtain ⟨L', hL', h0, fs, h1, h2⟩ := hi.rel b _ hg
            rw [hL] at hL'; cases hL'
            have hobj : (getObj L.blk).run k.p w = .ok (.map fs clock) w := run_getObj h1 trivial
            have hc := (bif_none hv).1
            replace hv := (bif_none hv).2
            have hc : chkV k.p (Nat.succ eqDepth) kt key = true := by simpa using hc
            obtain ⟨kd, hkd⟩ := chk_und hc
            have hck := chkV_sound (P := k.p) (w := w) fs.isEmpty _ _ _ _ hc hy
            have hck : (Instr.checkKey fs.isEmpty 10000 kt py).run k.p w = .ok () w := hck
            split at hv
            · rename_i i old y born hf
              obtain ⟨rr, hr, z, hz, rfl⟩ := findKey_sound (w := w) hkd hy h2 hf
              simp only [Option.some.injEq] at hv; subst hv
              refine fin (w.putObj L.blk (.map (fs.eraseIdxIfInBounds i) clock)) _ ?_ (hi.put hg hL fun hh => ⟨h0, _, hh, ?_⟩)
              · simp only [Builtin.delete_, ht, a1, a2, Sem.run_bind, run_und hd, Result.andThen_ok, Sem.run_pure, hobj, hck, hr, run_setObj _ h1 trivial]
              · rw [Array.toList_eraseIdxIfInBounds]
                exact h2.erase
            · rename_i hf
              obtain ⟨rr, hr, rfl⟩ := findKey_sound (w := w) hkd hy h2 hf
              simp only [Option.some.injEq] at hv; subst hv
              have hp := hi.put hg hL (o' := .map es clock) (y := .map fs clock) fun hh => ⟨h0, _, hh, h2⟩
              refine fin (w.putObj L.blk (.map fs clock)) _ ?_ (hp.sub (fun c' o' e' => ?_) (Nat.le_refl _))
              · simp only [Builtin.delete_, ht, a1, a2, Sem.run_bind, run_und hd, Result.andThen_ok, Sem.run_pure, hobj, hck, hr, run_setObj _ h1 trivial]
              · simp only [H.set, Tr.get_set]
                by_cases hcb : c' = b
                · subst hcb; rw [hg] at e'; rw [if_pos rfl]; exact e'
                · rw [if_neg hcb]; exact e'
            · simp at hv
          · simp at hv
        · simp at hv
    · simp at hv
  · -- value
    rename_i f hcal
    obtain ⟨d, h1, h2⟩ := callV_sound (w := w) hk hi (E f) hargs hv
    have hrun : (execOp a.eval o).run k.p w = (invoke d.target d.args).run k.p w := by
      simp only [execOp, ho, resolve, hcal, Sem.run_bind, hmap, h1, Result.andThen_ok]
    cases r with
    | val v h' =>
      obtain ⟨rfl, x, hx, hx'⟩ := h2
      exact ⟨θ, x, w, Th.le_refl _, by rw [hrun, hx'], hx, hi⟩
    | call f ar h' =>
      obtain ⟨rfl, ys, hy, hy'⟩ := h2
      exact ⟨rfl, ys, hy, by rw [hrun, hy']⟩
    | yld l ar h' =>
      obtain ⟨rfl, L, ys, hL, hy, hy'⟩ := h2
      exact ⟨rfl, L, ys, hL, hy, by rw [hrun, hy']⟩
    | _ => exact h2.elim
  · simp at hv

theorem l_defer {c : Call} {r : R} (ho : o.op = .defer c) (E : Ops θ s a) (hv : evL0 k s o = some r) : LOk k.p Φ θ w a o s.h r := by
  have hargs := E.list c.args.toList
  have hmap : (c.args.map a.eval) = ⟨c.args.toList.map a.eval⟩ := by apply Array.ext'; simp
  simp only [evL0, ho] at hv
  split at hv
  · rename_i f hcal
    have hf := E f
    split at hv
    · rename_i g first cap e1
      rw [e1] at hf
      obtain ⟨g', fs, cs, h1, h2, h3, h4⟩ := conc_fn hf
      simp only [concFn, Option.some.injEq] at h1; subst h1
      simp only [Option.some.injEq] at hv; subst hv
      refine ⟨_, _, _, _, rfl, concL_append h2 hargs, h3, ?_⟩
      simp only [execOp, ho, resolve, hcal, Sem.run_bind, hmap, h4, Deferred.ofValue, Sem.run_pure, Result.andThen_ok]
      simp
    · simp at hv
  · simp at hv
theorem l_panic {x : Operand} {r : R} (ho : o.op = .panic x) (E : Ops θ s a) (hv : evL0 k s o = some r) : LOk k.p Φ θ w a o s.h r := by
  have hx := E x
  simp only [evL0, ho] at hv
  split at hv
  · rename_i t v e1
    rw [e1] at hx
    obtain ⟨y, h1, h2⟩ := conc_iface hx
    simp only [Option.some.injEq] at hv; subst hv
    refine ⟨rfl, _, hx, ?_⟩
    simp only [execOp, ho, h2, Instr.panic, goPanic, Sem.run_bind]
    rfl
  · simp at hv

/-- Every operation that is not quiet. -/
theorem evL0_sound (hk : k.Ok) {r : R} (E : Ops θ s a) (hi : Inv Φ θ s.h w) (hv : evL0 k s o = some r) : LOk k.p Φ θ w a o s.h r := by
  have key := hv
  unfold evL0 at hv
  dsimp only at hv
  split at hv
  · rename_i t ho
    split at hv
    · simp only [Option.some.injEq] at hv; subst hv; exact l_alloc ho hi key
    · simp at hv
  · rename_i t x ho
    simp only [Option.some.injEq] at hv; subst hv; exact l_box ho E hi key
  · rename_i t len parts ho
    split at hv
    · split at hv
      · replace hv := (bif_some hv).2
        split at hv
        · simp only [Option.some.injEq] at hv; subst hv; exact l_buildSlice ho E hi key
        · simp at hv
      · simp at hv
    · simp at hv
  · rename_i t x y ho
    split at hv
    · simp only [Option.some.injEq] at hv; subst hv; exact l_store ho E hi key
    · simp at hv
  · rename_i src dst x ho
    split at hv
    · split at hv
      · replace hv := (bif_some hv).2
        simp only [Option.some.injEq] at hv; subst hv; exact l_convert ho E hi key
      · simp at hv
    · split at hv
      · replace hv := (bif_some hv).2
        simp only [Option.some.injEq] at hv; subst hv; exact l_convert ho E hi key
      · simp at hv
    · simp at hv
  · rename_i t r' ho
    split at hv
    · simp only [Option.some.injEq] at hv; subst hv; exact l_makeMap ho E hi key
    · split at hv
      · simp only [Option.some.injEq] at hv; subst hv; exact l_makeMap ho E hi key
      · simp at hv
  · rename_i t l c ho
    split at hv
    · split at hv
      · replace hv := (bif_some hv).2
        simp only [Option.some.injEq] at hv; subst hv; exact l_makeSlice ho E hi key
      · simp at hv
    · simp at hv
  · rename_i t m kk x ho
    obtain ⟨h', rfl, hs⟩ := l_update (.inl ho) E hi key
    exact hs
  · rename_i t m kk x ho
    obtain ⟨h', rfl, hs⟩ := l_update (.inr ho) E hi key
    exact hs
  · rename_i t x ho
    split at hv
    · simp only [Option.some.injEq] at hv; subst hv; exact l_range ho E hi key
    · simp only [Option.some.injEq] at hv; subst hv; exact l_range ho E hi key
    · split at hv
      · simp only [Option.some.injEq] at hv; subst hv; exact l_range ho E hi key
      · simp at hv
    · simp at hv
  · rename_i x b ho
    have := l_next ho E hi key
    cases r <;> first | exact this | exact this.elim
  · rename_i c ho
    exact l_call hk ho E hi key
  · rename_i c ho
    exact l_defer ho E key
  · rename_i x ho
    exact l_panic ho E key
  · simp at hv
theorem evL_eq (k : K) (s : S) (o : Oper) : evL k s o = evL0 k s o := by
  cases ho : o.op <;> simp only [evL, evL0, ho] <;> rfl
theorem evL_sound (hk : k.Ok) {r : R} (E : Ops θ s a) (hi : Inv Φ θ s.h w) (hv : evL k s o = some r) : LOk k.p Φ θ w a o s.h r := evL0_sound hk E hi (by rw [← evL_eq]; exact hv)
end Go.Proofs.YtnboghpebjciaaaGreatDoor.Ev
