/-
  The evaluator's quiet operations answer as the machine's do, in every world that its heap describes.
-/
import Derived.Test.YtnboghpebjciaaaGreatDoorEvA
import Derived.Laws.BytesArg
import Derived.Laws.BitsLemmas
set_option linter.unusedSectionVars false
set_option linter.unusedVariables false
set_option linter.unusedSimpArgs false
namespace Go.Proofs.YtnboghpebjciaaaGreatDoor.Ev
variable [Sym]
variable {k : K} {h : H} {s : S} {a : Act} {θ : Th} {w : World} {o : Oper}

/-- A quiet operation answers `v`, and leaves the world. -/
def QOk (P : Program) (θ : Th) (w : World) (a : Act) (o : Oper) (v : V) : Prop := ∃ x, (execOp a.eval o).run P w = .ok (.value x) w ∧ conc θ v = some x

/-- The operands, as the frame has them. -/
def Ops (θ : Th) (s : S) (a : Act) : Prop := ∀ x, conc θ (s.ev x) = some (a.eval x)
theorem Ops.list (E : Ops θ s a) : ∀ l : List Operand, concL θ (l.map s.ev) = some (l.map a.eval)
  | [] => concL_nil θ
  | x :: xs => concL_cons.2 ⟨_, _, E x, E.list xs, rfl⟩
theorem Ops.of {x : Operand} {v : V} (E : Ops θ s a) (e : s.ev x = v) : conc θ v = some (a.eval x) := e ▸ E x
theorem Ops.opt (E : Ops θ s a) (x : Option Operand) : (x.map s.ev = none ∧ x.map a.eval = none) ∨ ∃ v y, x.map s.ev = some v ∧ x.map a.eval = some y ∧ conc θ v = some y := by
  cases x with
  | none => exact .inl ⟨rfl, rfl⟩
  | some x => exact .inr ⟨_, _, rfl, rfl, E x⟩

theorem q_move {x : Operand} (ho : o.op = .move x) (E : Ops θ s a) : QOk k.p θ w a o (s.ev x) := ⟨_, by simp [execOp, ho], E x⟩
theorem q_assign {x : Operand} (ho : o.op = .assign x) (E : Ops θ s a) : QOk k.p θ w a o (s.ev x) := ⟨_, by simp [execOp, ho], E x⟩
theorem q_pick {c x y : Operand} {t : Bool} (ho : o.op = .pick c x y) (E : Ops θ s a) (hc : s.ev c = .bool t) : QOk k.p θ w a o (bif t then s.ev x else s.ev y) := by
  have := conc_bool (E.of hc)
  cases t
  · exact ⟨_, by simp [execOp, ho, this, asBool], E y⟩
  · exact ⟨_, by simp [execOp, ho, this, asBool], E x⟩
theorem q_load {t : TypeId} {x : Operand} {v : V} (ho : o.op = .load t x) (E : Ops θ s a) (hr : HRel θ h w) (hg : GRel k.gl fun i => w.heap[i]?) (hl : loadAt k t h (s.ev x) = some v) : QOk k.p θ w a o v := by
  obtain ⟨y, hy, hy'⟩ := loadAt_sound hr hg (E x) hl
  exact ⟨y, by simp [execOp, ho, hy], hy'⟩
theorem q_nil1 {x : Operand} {b off : Nat} (ho : o.op = .nilCheck x) (E : Ops θ s a) (hx : s.ev x = .ptr b off) : QOk k.p θ w a o (.ptr b off) := by
  have h1 := E.of hx
  obtain ⟨L, _, e⟩ := conc_ptr h1
  exact ⟨_, by simp [execOp, ho, e], e ▸ h1⟩
theorem q_nil2 {x : Operand} {f : FuncId} {u c : List V} (ho : o.op = .nilCheck x) (E : Ops θ s a) (hx : s.ev x = .fn (.func f) u c) : QOk k.p θ w a o (.fn (.func f) u c) := by
  have h1 := E.of hx
  obtain ⟨g, as, cs, hf, _, _, e⟩ := conc_fn h1
  simp only [concFn, Option.some.injEq] at hf
  subst hf
  exact ⟨_, by simp [execOp, ho, e], e ▸ h1⟩

/-! Numbers. -/
theorem binInt_sound {op : BinOp} {kk : IntKind} {x y : Int} {v : V} (hv : binInt op kk x y = some v) (t : TypeId) : ∃ z, (binOp op t (.int kk x) (.int kk y)).run k.p w = .ok z w ∧ conc θ v = some z := by
  have hb : ∀ m : BitVec kk.bits, IntKind.wrap kk m.toNat = IntKind.wrap kk (Int.ofNat m.toNat) := fun _ => rfl
  cases op <;> simp only [binInt, Option.some.injEq, reduceCtorEq] at hv
  case add => subst hv; exact ⟨_, by simp [binOp, Op.intArith]; rfl, by simp [conc, wrapK_eq]⟩
  case sub => subst hv; exact ⟨_, by simp [binOp, Op.intArith]; rfl, by simp [conc, wrapK_eq]⟩
  case mul => subst hv; exact ⟨_, by simp [binOp, Op.intArith]; rfl, by simp [conc, wrapK_eq]⟩
  case quo =>
    obtain ⟨h0, hv⟩ := bif_none hv
    simp only [Option.some.injEq] at hv; subst hv
    have hy : y ≠ 0 := by intro e; subst e; simp [eqI_eq] at h0
    exact ⟨_, by simp [binOp, Op.intDiv, hy]; rfl, by simp [conc, wrapK_eq]⟩
  case rem =>
    obtain ⟨h0, hv⟩ := bif_none hv
    simp only [Option.some.injEq] at hv; subst hv
    have hy : y ≠ 0 := by intro e; subst e; simp [eqI_eq] at h0
    exact ⟨_, by simp [binOp, Op.intDiv, hy]; rfl, by simp [conc]⟩
  case and => subst hv; exact ⟨_, by simp [binOp, Op.intBits]; rfl, by simp only [conc, wrapK_eq, toU_eq]; congr 2⟩
  case or => subst hv; exact ⟨_, by simp [binOp, Op.intBits]; rfl, by simp only [conc, wrapK_eq, toU_eq]; congr 2⟩
  case xor => subst hv; exact ⟨_, by simp [binOp, Op.intBits]; rfl, by simp only [conc, wrapK_eq, toU_eq]; congr 2⟩
  case andNot =>
    subst hv
    refine ⟨_, by simp only [binOp, Op.intBits]; simp only [ne_eq, not_true_eq_false, if_false]; rfl, ?_⟩
    simp only [conc, wrapK_eq, toU_eq]
    have e : Nat.xor (BitVec.ofInt kk.bits x).toNat (Nat.land (BitVec.ofInt kk.bits x).toNat (BitVec.ofInt kk.bits y).toNat) = (BitVec.ofInt kk.bits x &&& ~~~BitVec.ofInt kk.bits y).toNat := by
      have : BitVec.ofInt kk.bits x &&& ~~~BitVec.ofInt kk.bits y = BitVec.ofInt kk.bits x ^^^ (BitVec.ofInt kk.bits x &&& BitVec.ofInt kk.bits y) := by
        ext i hi
        simp only [BitVec.getElem_and, BitVec.getElem_not, BitVec.getElem_xor]
        cases (BitVec.ofInt kk.bits x)[i] <;> cases (BitVec.ofInt kk.bits y)[i] <;> rfl
      rw [this, BitVec.toNat_xor, BitVec.toNat_and]; rfl
    rw [e]; rfl
  case eql => subst hv; exact ⟨_, by simp [binOp, Op.intCmp]; rfl, by simp [conc, eqI_eq]⟩
  case neq => subst hv; exact ⟨_, by simp [binOp, Op.intCmp]; rfl, by simp only [conc, eqI_eq]; rfl⟩
  case lss => subst hv; exact ⟨_, by simp [binOp, Op.intCmp]; rfl, by simp [conc, ltI_eq]⟩
  case leq => subst hv; exact ⟨_, by simp [binOp, Op.intCmp]; rfl, by simp only [conc, ltI_eq]; congr 2; rw [Bool.eq_iff_iff]; simp⟩
  case gtr => subst hv; exact ⟨_, by simp [binOp, Op.intCmp]; rfl, by simp [conc, ltI_eq]⟩
  case geq => subst hv; exact ⟨_, by simp [binOp, Op.intCmp]; rfl, by simp only [conc, ltI_eq]; congr 2; rw [Bool.eq_iff_iff]; simp⟩

theorem shift_sound {op : BinOp} {kk yk : IntKind} {x y : Int} {v : V} (t : TypeId) (hop : (op = .shl ∧ v = .int kk (wrapK kk (shlI x (Nat.min y.toNat (bitsK kk))))) ∨ (op = .shr ∧ v = .int kk (shrI x (Nat.min y.toNat (bitsK kk))))) (hy : ltI y 0 = false) :
    ∃ z, (binOp op t (.int kk x) (.int yk y)).run k.p w = .ok z w ∧ conc θ v = some z := by
  have hy' : ¬ y < 0 := by rw [ltI_eq] at hy; simpa using hy
  rcases hop with ⟨rfl, rfl⟩ | ⟨rfl, rfl⟩
  · refine ⟨_, by simp only [binOp, Op.shift, hy', if_false]; rfl, ?_⟩
    simp only [conc, wrapK_eq, shlI_eq, bitsK_eq]
  · refine ⟨_, by simp only [binOp, Op.shift, hy', if_false]; rfl, ?_⟩
    simp only [conc, shrI_eq, bitsK_eq]
theorem toList_mk (l : List UInt8) : (ByteArray.mk ⟨l⟩).toList = l := by rw [ByteArray.toList_eq]
theorem size_mk (l : List UInt8) : (ByteArray.mk ⟨l⟩).size = l.length := rfl
theorem append_mk (a b : List UInt8) : ByteArray.mk ⟨a⟩ ++ ByteArray.mk ⟨b⟩ = ByteArray.mk ⟨a ++ b⟩ := by
  apply ByteArray.ext
  rw [ByteArray.data_append]; simp
theorem less_total : ∀ x y : List UInt8, (Op.bytesLess x y || (x == y)) = !Op.bytesLess y x
  | [], [] => by simp [Op.bytesLess]
  | [], _ :: _ => by simp [Op.bytesLess]
  | _ :: _, [] => by simp [Op.bytesLess]
  | a :: x, b :: y => by
    have ih := less_total x y
    simp only [Op.bytesLess, List.cons_beq_cons]
    have hab : decide (a < b) = decide (a.toNat < b.toNat) := by rw [Bool.eq_iff_iff]; simp [UInt8.lt_iff_toNat_lt]
    have hba : decide (b < a) = decide (b.toNat < a.toNat) := by rw [Bool.eq_iff_iff]; simp [UInt8.lt_iff_toNat_lt]
    have he : (a == b) = decide (a.toNat = b.toNat) := by
      rw [Bool.eq_iff_iff, beq_iff_eq, decide_eq_true_eq]; exact ⟨fun h => by rw [h], u8_toNat_inj⟩
    have he' : (b == a) = decide (a.toNat = b.toNat) := by
      rw [Bool.eq_iff_iff, beq_iff_eq, decide_eq_true_eq]; exact ⟨fun h => by rw [h], fun h => (u8_toNat_inj h).symm⟩
    rw [hab, hba, he, he']
    rcases Nat.lt_trichotomy a.toNat b.toNat with h | h | h
    · have h1 : ¬ b.toNat < a.toNat := by omega
      have h2 : a.toNat ≠ b.toNat := by omega
      simp [h, h1, h2]
    · simp [h]; rw [← ih]
    · have h1 : ¬ a.toNat < b.toNat := by omega
      have h2 : a.toNat ≠ b.toNat := by omega
      simp [h, h1, h2]
theorem binStr_sound {op : BinOp} {x y : List UInt8} {v : V} (hv : binStr op x y = some v) (t : TypeId) : ∃ z, (binOp op t (.string ⟨⟨x⟩⟩) (.string ⟨⟨y⟩⟩)).run k.p w = .ok z w ∧ conc θ v = some z := by
  have hb : binOp op t (.string ⟨⟨x⟩⟩) (.string ⟨⟨y⟩⟩) = Op.stringOp op ⟨⟨x⟩⟩ ⟨⟨y⟩⟩ := by cases op <;> rfl
  rw [hb]
  cases op <;> simp only [binStr, Option.some.injEq, reduceCtorEq] at hv
  case add =>
    obtain ⟨h1, hv⟩ := bif_some hv
    simp only [Option.some.injEq] at hv; subst hv
    have h1 : x.length + y.length ≤ 1000000000 := Nat.le_of_ble_eq_true h1
    have hm : IntKind.i64.max = 9223372036854775807 := rfl
    have hn : ¬ (((ByteArray.mk ⟨x⟩).size + (ByteArray.mk ⟨y⟩).size : Nat) : Int) > IntKind.i64.max := by rw [hm, size_mk, size_mk]; omega
    refine ⟨.string ⟨⟨x ++ y⟩⟩, ?_, by simp [conc]⟩
    simp only [Op.stringOp, hn, if_false]
    rw [append_mk]; rfl
  case eql => subst hv; exact ⟨_, by simp only [Op.stringOp, toList_mk]; rfl, by simp [conc, eqS_eq]⟩
  case neq => subst hv; exact ⟨_, by simp only [Op.stringOp, toList_mk]; rfl, by simp [conc, eqS_eq]⟩
  case lss => subst hv; exact ⟨_, by simp only [Op.stringOp, toList_mk]; rfl, by simp [conc, ltS_eq]⟩
  case leq => subst hv; exact ⟨_, by simp only [Op.stringOp, toList_mk]; rfl, by simp only [conc, ltS_eq, ← less_total x y]⟩
  case gtr => subst hv; exact ⟨_, by simp only [Op.stringOp, toList_mk]; rfl, by simp only [conc, ltS_eq, less_total x y, Bool.not_not]⟩
  case geq => subst hv; exact ⟨_, by simp only [Op.stringOp, toList_mk]; rfl, by simp [conc, ltS_eq]⟩

theorem eqV_opq {P : Program} {d : Nat} {t : TypeId} {x y : V} {b : Bool} (h : eqV P (d + 1) t x y = some b) : (∀ z, x ≠ .opq z) ∧ ∀ z, y ≠ .opq z := by
  refine ⟨fun z e => ?_, fun z e => ?_⟩
  · subst e
    rw [eqV.eq_def] at h
    simp only at h
    (repeat' split at h) <;> simp_all
  · subst e
    rw [eqV.eq_def] at h
    cases x <;> simp only at h <;> ((repeat' split at h) <;> simp_all)
theorem conc_inv_int {v : V} {kk : IntKind} {n : Int} (h : conc θ v = some (.int kk n)) : v = .int kk n ∨ ∃ z, v = .opq z := by
  cases v <;> simp only [conc] at h
  all_goals first
    | (simp only [Option.some.injEq, Value.int.injEq] at h; obtain ⟨rfl, rfl⟩ := h; exact .inl rfl)
    | exact .inr ⟨_, rfl⟩
    | ((repeat' split at h) <;> simp at h)
theorem conc_inv_str {v : V} {u : ByteArray} (h : conc θ v = some (.string u)) : v = .str u.data.toList ∨ ∃ z, v = .opq z := by
  cases v <;> simp only [conc] at h
  all_goals first
    | (simp only [Option.some.injEq, Value.string.injEq] at h; subst h; exact .inl rfl)
    | exact .inr ⟨_, rfl⟩
    | ((repeat' split at h) <;> simp at h)
theorem conc_inv_float {v : V} {kk : FloatKind} {n : Nat} (h : conc θ v = some (.float kk n)) : ∃ z, v = .opq z := by
  cases v <;> simp only [conc] at h
  all_goals first
    | exact ⟨_, rfl⟩
    | (exfalso; (repeat' split at h) <;> simp at h)
theorem conc_inv_complex {v : V} {kk : FloatKind} {n m : Nat} (h : conc θ v = some (.complex kk n m)) : ∃ z, v = .opq z := by
  cases v <;> simp only [conc] at h
  all_goals first
    | exact ⟨_, rfl⟩
    | (exfalso; (repeat' split at h) <;> simp at h)
/-- An equality or an inequality of two values that are neither both numbers nor both strings. -/
theorem binEq_sound {t : TypeId} {x y : V} {p q : Value} {b : Bool} (hx : conc θ x = some p) (hy : conc θ y = some q) (he : eqV k.p (Nat.succ eqDepth) t x y = some b)
    (hn1 : ∀ kk n j m, x = .int kk n → y = .int j m → False) (hn2 : ∀ u v, x = .str u → y = .str v → False) :
    (binOp .eql t p q).run k.p w = .ok (.bool b) w ∧ (binOp .neq t p q).run k.p w = .ok (.bool (!b)) w := by
  have hd : Op.equal t p q = Op.equalIn (Nat.succ eqDepth) t p q := rfl
  have h1 := eqV_sound (P := k.p) (w := w) (θ := θ) _ _ _ _ _ _ _ he hx hy
  rw [← hd] at h1
  have key : ∀ {p q : Value}, (Op.equal t p q).run k.p w = .ok b w → (∀ kk n j m, p = .int kk n → q = .int j m → False) → (∀ u v, p = .string u → q = .string v → False) → (∀ kk n j m, p = .float kk n → q = .float j m → False) → (∀ kk n r j m u, p = .complex kk n r → q = .complex j m u → False) →
      (binOp .eql t p q).run k.p w = .ok (.bool b) w ∧ (binOp .neq t p q).run k.p w = .ok (.bool (!b)) w := by
    intro p q h1 c1 c2 c3 c4
    have e1 : binOp .eql t p q = (do pure (.bool (← Op.equal t p q))) := by
      unfold binOp
      split <;> first | rfl | (exfalso; first | exact c1 _ _ _ _ rfl rfl | exact c2 _ _ rfl rfl | exact c3 _ _ _ _ rfl rfl | exact c4 _ _ _ _ _ _ rfl rfl | simp_all)
    have e2 : binOp .neq t p q = (do pure (.bool (!(← Op.equal t p q)))) := by
      unfold binOp
      split <;> first | rfl | (exfalso; first | exact c1 _ _ _ _ rfl rfl | exact c2 _ _ rfl rfl | exact c3 _ _ _ _ rfl rfl | exact c4 _ _ _ _ _ _ rfl rfl | simp_all)
    rw [e1, e2]
    simp [h1]
  obtain ⟨ox, oy⟩ := eqV_opq he
  refine key h1 ?_ ?_ ?_ ?_
  · rintro kk n j m rfl rfl
    rcases conc_inv_int hx with rfl | ⟨z, e⟩
    · rcases conc_inv_int hy with rfl | ⟨z, e⟩
      · exact hn1 _ _ _ _ rfl rfl
      · exact oy z e
    · exact ox z e
  · rintro u v rfl rfl
    rcases conc_inv_str hx with e | ⟨z, e⟩
    · rcases conc_inv_str hy with e' | ⟨z, e'⟩
      · exact hn2 _ _ e e'
      · exact oy z e'
    · exact ox z e
  · rintro kk n j m rfl rfl
    obtain ⟨z, e⟩ := conc_inv_float hx; exact ox z e
  · rintro kk n r j m u rfl rfl
    obtain ⟨z, e⟩ := conc_inv_complex hx; exact ox z e

/-- What the guard asks of the first operand. -/
def guardU (P : Program) (t : TypeId) (cx : Bool) : V → Bool
  | .agg _ => !P.eqGuardType P.depth t
  | .nili => cx
  | _ => true
theorem guard_eq {op : BinOp} (hop : op = .eql ∨ op = .neq) {t : TypeId} {x y : Operand} {u : V} {p q : Value} (hx : conc θ u = some p) (hu : ∀ z, u ≠ .opq z) (hg : guardU k.p t (isConst x || isConst y) u = true) :
    (eqGuard op t x y p q).run k.p w = .ok () w := by
  have e : eqGuard op t x y p q = eqGuard .eql t x y p q := by rcases hop with rfl | rfl <;> rfl
  rw [e]
  cases p with
  | nilIface =>
    cases q <;> try rfl
    have : u = .nili := by
      cases u <;> simp only [conc] at hx
      all_goals first
        | rfl
        | exact absurd rfl (hu _)
        | (exfalso; (repeat' split at hx) <;> simp at hx)
    subst this
    simp only [guardU] at hg
    cases x <;> cases y <;> first | rfl | simp [isConst] at hg
  | agg xs =>
    cases q <;> try rfl
    have : ∃ l, u = .agg l := by
      cases u <;> simp only [conc] at hx
      all_goals first
        | exact ⟨_, rfl⟩
        | exact absurd rfl (hu _)
        | (exfalso; (repeat' split at hx) <;> simp at hx)
    obtain ⟨l, rfl⟩ := this
    simp only [guardU, Bool.not_eq_true'] at hg
    exact run_eqGuard_agg w .eql t x y _ _ hg
  | _ => rfl
theorem guard_sound {op : BinOp} {t : TypeId} {x y : Operand} {u : V} {p q : Value} (hx : conc θ u = some p) (hu : ∀ z, u ≠ .opq z) (hg : guardV k.p op t (isConst x || isConst y) u = true) :
    (eqGuard op t x y p q).run k.p w = .ok () w := by
  cases op
  case eql => exact guard_eq (.inl rfl) hx hu (by cases u <;> exact hg)
  case neq => exact guard_eq (.inr rfl) hx hu (by cases u <;> exact hg)
  all_goals rfl

theorem q_bin {op : BinOp} {t yt : TypeId} {x y : Operand} {v : V} (ho : o.op = .binOp op t x y yt) (E : Ops θ s a) (hg : guardV k.p op t (isConst x || isConst y) (s.ev x) = true) (hv : binOpV k.p op t (s.ev x) (s.ev y) = some v) :
    QOk k.p θ w a o v := by
  have hx := E x
  have hy := E y
  have fin : (∀ z, s.ev x ≠ .opq z) → (∃ z, (binOp op t (a.eval x) (a.eval y)).run k.p w = .ok z w ∧ conc θ v = some z) → QOk k.p θ w a o v := fun hu ⟨z, hz, hz'⟩ =>
    ⟨z, by simp [execOp, ho, guard_sound (w := w) (q := a.eval y) hx hu hg, hz], hz'⟩
  unfold binOpV at hv
  split at hv
  · rename_i kk n jj m e1 e2
    rw [e1] at hx; rw [e2] at hy
    have hx := conc_int hx
    have hy := conc_int hy
    refine fin (fun z => by rw [e1]; exact fun h => by cases h) ?_
    rw [hx, hy]
    split at hv
    · obtain ⟨h1, hv⟩ := bif_none hv
      simp only [Option.some.injEq] at hv
      exact shift_sound t (.inl ⟨rfl, hv.symm⟩) h1
    · obtain ⟨h1, hv⟩ := bif_none hv
      simp only [Option.some.injEq] at hv
      exact shift_sound t (.inr ⟨rfl, hv.symm⟩) h1
    · obtain ⟨h1, hv⟩ := bif_some hv
      rw [← (eqK_eq _ _).1 h1]
      exact binInt_sound hv t
  · rename_i u z e1 e2
    rw [e1] at hx; rw [e2] at hy
    have hx := conc_str hx
    have hy := conc_str hy
    refine fin (fun z => by rw [e1]; exact fun h => by cases h) ?_
    rw [hx, hy]
    exact binStr_sound hv t
  · rename_i n1 n2
    split at hv
    · split at hv
      · rename_i b hb
        simp only [Option.some.injEq] at hv; subst hv
        exact fin (eqV_opq hb).1 ⟨_, (binEq_sound hx hy hb (fun kk n j m e1 e2 => n1 _ _ _ _ e1 e2) (fun u v e1 e2 => n2 _ _ e1 e2)).1, by simp [conc]⟩
      · simp at hv
    · split at hv
      · rename_i b hb
        simp only [Option.some.injEq] at hv; subst hv
        exact fin (eqV_opq hb).1 ⟨_, (binEq_sound hx hy hb (fun kk n j m e1 e2 => n1 _ _ _ _ e1 e2) (fun u v e1 e2 => n2 _ _ e1 e2)).2, by simp [conc]⟩
      · simp at hv
    · simp at hv
end Go.Proofs.YtnboghpebjciaaaGreatDoor.Ev

namespace Go.Proofs.YtnboghpebjciaaaGreatDoor.Ev
variable [Sym]
variable {k : K} {h : H} {s : S} {a : Act} {θ : Th} {w : World} {o : Oper}

theorem q_un {op : UnOp} {t : TypeId} {x : Operand} {v : V} (ho : o.op = .unOp op t x) (E : Ops θ s a) (hv : unOpV op (s.ev x) = some v) : QOk k.p θ w a o v := by
  have hx := E x
  unfold unOpV at hv
  split at hv
  · rename_i kk n e
    rw [e] at hx
    simp only [Option.some.injEq] at hv; subst hv
    exact ⟨_, by simp only [execOp, ho, conc_int hx]; simp [Op.unary, Op.intArith]; rfl, by simp [conc, wrapK_eq]⟩
  · rename_i kk n e
    rw [e] at hx
    simp only [Option.some.injEq] at hv; subst hv
    refine ⟨_, by simp only [execOp, ho, conc_int hx]; simp [Op.unary, Op.intBits]; rfl, ?_⟩
    simp only [conc, wrapK_eq, toU_eq]; rfl
  · rename_i b e
    rw [e] at hx
    simp only [Option.some.injEq] at hv; subst hv
    exact ⟨_, by simp only [execOp, ho, conc_bool hx]; simp [Op.unary]; rfl, by simp [conc]⟩
  · simp at hv

/-! Bytes of a row. -/
theorem strOf_spec : ∀ {vs : List V} {bs : List UInt8}, strOf vs = some bs → ∀ {xs : List Value}, concL θ vs = some xs → ∃ ns : List Int, xs = ns.map (Value.int .u8) ∧ ns.length = vs.length ∧ bs = ns.map fun n => UInt8.ofNat n.toNat
  | [], bs, h, xs, hx => by
    simp [strOf] at h; subst h
    simp [concL] at hx; subst hx
    exact ⟨[], rfl, rfl, rfl⟩
  | v :: vs, bs, h, xs, hx => by
    obtain ⟨y, ys, h1, h2, rfl⟩ := concL_cons.1 hx
    simp only [strOf] at h
    split at h
    · rename_i n
      split at h
      · rename_i bs' hbs
        simp only [Option.some.injEq] at h; subst h
        obtain ⟨ns, e1, e2, e3⟩ := strOf_spec hbs h2
        rw [conc_int h1, e1, e3]
        exact ⟨.ofNat n :: ns, rfl, by simp [e2], by simp⟩
      · simp at h
    · simp at h
/-- The first cells of what is appended, copied, or made a text. -/
theorem firstC_sound {P : Program} {size n m : Nat} {v : V} {vs : List V} {x : Value} (hr : HRel θ h w) (hv : conc θ v = some x) (hl : lenS v = some m) (hn : n ≤ m) (hf : firstC size n h v = some vs) :
    ∃ xs, (Builtin.firstCells size n x).run P w = .ok ⟨xs⟩ w ∧ concL θ vs = some xs ∧ (xs.length = n * size ∨ (∃ s, v = .str s) ∧ xs.length = n) ∧ (Builtin.lenOf x).run P w = .ok m w := by
  unfold firstC at hf
  split at hf
  · simp only [lenS, Option.some.injEq] at hl
    subst hl
    simp only [Option.some.injEq] at hf; subst hf
    obtain rfl : n = 0 := by omega
    rw [conc_snil hv]
    exact ⟨[], by simp [Builtin.firstCells], concL_nil θ, .inl (by simp), by simp [Builtin.lenOf]⟩
  · obtain ⟨h0, hf⟩ := bif_some hf
    simp only [Option.some.injEq] at hf; subst hf
    have := Nat.eq_of_beq_eq_true h0
    subst this
    simp only [lenS, Option.some.injEq] at hl; subst hl
    obtain ⟨L, _, rfl⟩ := conc_e0 hv
    exact ⟨[], by simp [Builtin.firstCells, loadCells, loadCellsFrom], concL_nil θ, .inl (by simp), by simp [Builtin.lenOf]⟩
  · rename_i b off len cap op
    simp only [lenS, Option.some.injEq] at hl; subst hl
    split at hf
    · rename_i q c z hg
      obtain ⟨hb, hf⟩ := bif_some hf
      obtain ⟨L, hL, arr, el, lo, hi, h1, h2, h3, h4, h5⟩ := hr b _ hg
      obtain ⟨L', hL', rfl⟩ := conc_sl hv
      rw [hL] at hL'; cases hL'
      have hb : off + n * size ≤ q := Nat.le_of_ble_eq_true hb
      obtain ⟨xs, g1, g2, g3⟩ := range_conc hf hb h5
      have g := run_loads (P := P) h1 g2 g3
      exact ⟨xs, by simpa [Builtin.firstCells] using g, g1, .inl g2, by simp [Builtin.lenOf]⟩
    · simp at hf
  · rename_i bs
    simp only [lenS, Option.some.injEq] at hl; subst hl
    simp only [Option.some.injEq] at hf; subst hf
    rw [conc_str hv]
    refine ⟨(bs.take n).map fun b => .int .u8 (.ofNat b.toNat), ?_, ?_, .inr ⟨⟨_, rfl⟩, by simp; omega⟩, by simp [Builtin.lenOf, size_mk]⟩
    · simp only [Builtin.firstCells, Sem.run_pure]
      congr 1
      apply Array.ext'
      simp
    · generalize bs.take n = l
      induction l with
      | nil => exact concL_nil θ
      | cons b l ih => exact concL_cons.2 ⟨_, _, rfl, ih, rfl⟩
  · simp at hf

theorem q_convert {src dst : TypeId} {x : Operand} {v : V} (ho : o.op = .convert src dst x) (E : Ops θ s a) (hr : HRel θ h w) (hv : evQ0 k h s o = some v) : QOk k.p θ w a o v := by
  have hx := E x
  simp only [evQ0, ho] at hv
  split at hv
  · rename_i d kk kk' n h1 h2 e
    rw [e] at hx
    simp only [Option.some.injEq] at hv; subst hv
    refine ⟨.int kk (kk.wrap n), ?_, by simp [conc, wrapK_eq]⟩
    simp only [execOp, ho, conc_int hx]
    simp [convert, run_und h1, run_und h2, Conv.intToInt]
  · rename_i d bs h1 h2 e
    rw [e] at hx
    simp only [Option.some.injEq] at hv; subst hv
    refine ⟨.string ⟨⟨bs⟩⟩, ?_, by simp [conc]⟩
    simp only [execOp, ho, conc_str hx]
    simp [convert, run_und h1, run_und h2]
  · rename_i e x' h1 h2 e1
    split at hv
    · rename_i h3
      split at hv
      · rename_i e2
        rw [e2] at hx
        simp only [Option.some.injEq] at hv; subst hv
        refine ⟨.string .empty, ?_, by simp [conc]; rfl⟩
        simp only [execOp, ho, conc_snil hx]
        simp [convert, run_und h1, run_und h2, run_und h3, Conv.bytesToString]
      · rename_i b o1 o2 e2
        rw [e2] at hx
        simp only [Option.some.injEq] at hv; subst hv
        obtain ⟨L, _, e3⟩ := conc_e0 hx
        refine ⟨.string .empty, ?_, by simp [conc]; rfl⟩
        simp only [execOp, ho, e3]
        simp [convert, run_und h1, run_und h2, run_und h3, Conv.bytesToString, loadCells, loadCellsFrom]
      · rename_i b off len cap op e2
        rw [e2] at hx
        split at hv
        · rename_i cs hcs
          split at hv
          · rename_i bs hbs
            simp only [Option.some.injEq] at hv; subst hv
            rw [e2] at hcs
            obtain ⟨xs, g1, g2, g3, _⟩ := firstC_sound (P := k.p) hr hx (m := len) rfl (Nat.le_refl _) hcs
            obtain ⟨ns, e4, e5, e6⟩ := strOf_spec hbs g2
            obtain ⟨L, hL, e3⟩ := conc_sl hx
            refine ⟨.string ⟨⟨bs⟩⟩, ?_, by simp [conc]⟩
            rw [e3] at g1
            simp only [Builtin.firstCells, Nat.mul_one] at g1
            have g : (Conv.bytesToString (.slice (some ⟨L.blk, L.off + off, none⟩) len (cap + if op then L.ext else 0))).run k.p w = _ := run_bytesToString w _ _ _ ns (by rw [g1, e4])
            have e7 : ns.foldl (fun r n => r.push (UInt8.ofNat n.toNat)) ByteArray.empty = ⟨⟨bs⟩⟩ := by
              rw [foldl_push_bytes, e6]; simp [ByteArray.empty, ByteArray.emptyWithCapacity]; rfl
            rw [e7] at g
            simp only [execOp, ho, e3, Sem.run_bind]
            rw [run_convert_bytes_string w _ _ _ _ _ _ h1 h3 h2, g]
            rfl
          · simp at hv
        · simp at hv
      · simp at hv
    · simp at hv
  · simp at hv

theorem q_s2ap {arr : TypeId} {x : Operand} {v : V} (ho : o.op = .sliceToArrayPointer arr x) (E : Ops θ s a) (hv : evQ0 k h s o = some v) : QOk k.p θ w a o v := by
  have hx := E x
  simp only [evQ0, ho] at hv
  split at hv
  · rename_i n e b off len cap op h1 e1
    rw [e1] at hx
    obtain ⟨hb, hv⟩ := bif_some hv
    have hb := Nat.le_of_ble_eq_true hb
    simp only [Option.some.injEq] at hv; subst hv
    obtain ⟨L, hL, e3⟩ := conc_sl hx
    refine ⟨.pointer (some ⟨L.blk, L.off + off, none⟩), ?_, by simp [conc, hL]⟩
    simp only [execOp, ho, e3]
    simp [Instr.arrayAt, run_und h1, show ¬ len < n from by omega]
  · simp at hv
theorem q_iface {t : TypeId} {x : Operand} {v : V} (ho : o.op = .makeInterface t x) (E : Ops θ s a) (hv : evQ0 k h s o = some v) : QOk k.p θ w a o v := by
  have hx := E x
  simp only [evQ0, ho] at hv
  split at hv
  · simp at hv
  · rename_i d hn h1
    simp only [Option.some.injEq] at hv; subst hv
    refine ⟨.iface t (a.eval x), ?_, by simp [conc, hx]⟩
    simp only [execOp, ho, Instr.makeInterface, Sem.run_bind, run_und h1, Result.andThen_ok]
    cases d <;> first | rfl | exact absurd h1 (hn _)
  · simp at hv
theorem q_func {fn : Fn} {f c : Array Operand} {v : V} (ho : o.op = .makeFunc fn f c) (E : Ops θ s a) (hv : evQ0 k h s o = some v) : QOk k.p θ w a o v := by
  simp only [evQ0, ho] at hv
  split at hv
  · rename_i g
    simp only [Option.some.injEq] at hv; subst hv
    refine ⟨.func (.func g) (f.map a.eval) (c.map a.eval), by simp [execOp, ho, Instr.makeFunc], ?_⟩
    simp only [conc, concFn, E.list]
    congr 2
    · apply Array.ext'; simp
    · apply Array.ext'; simp
  · simp at hv

/-! Slices. -/
theorem natOf_spec {v : V} {n : Nat} (h : natOf v = some n) {x : Value} (hx : conc θ v = some x) : ∃ kk, x = .int kk (n : Int) := by
  unfold natOf at h
  split at h
  · rename_i kk m
    simp only [Option.some.injEq] at h; subst h
    exact ⟨kk, conc_int hx⟩
  · simp at h
/-- An operand that may be there. -/
def OptOk (θ : Th) (u : Option V) (y : Option Value) : Prop := (u = none ∧ y = none) ∨ ∃ v z, u = some v ∧ y = some z ∧ conc θ v = some z
theorem run_bound {P : Program} {m n d y : Nat} {u : Option V} {z : Value} {v : V} {code : BoundsCode} (hu : u = some v) (hz : conc θ v = some z) (h : bound m u d = some n) (hy : m ≤ y) :
    (Instr.sliceBound z y code).run P w = .ok n w ∧ n ≤ m := by
  subst hu
  simp only [bound] at h
  split at h
  · rename_i n' hn
    obtain ⟨hb, h⟩ := bif_some h
    have hb := Nat.le_of_ble_eq_true hb
    simp only [Option.some.injEq] at h; subst h
    obtain ⟨kk, rfl⟩ := natOf_spec hn hz
    refine ⟨?_, hb⟩
    have : (0 : Int) ≤ (n' : Int) ∧ (n' : Int) ≤ (y : Int) := ⟨by omega, by omega⟩
    simp [Instr.sliceBound, asIntOf, this]
  · simp at h
/-- The bounds, where the capacity may be larger than is known (`ext` more). -/
theorem run_bounds {P : Program} {len cap ext l hh m : Nat} {sl : Bool} {lo hi mx : Option V} {lo' hi' mx' : Option Value} (h1 : OptOk θ lo lo') (h2 : OptOk θ hi hi') (h3 : OptOk θ mx mx') (h : bounds len cap lo hi mx = some (l, hh, m)) :
    (Instr.sliceBounds sl len (cap + ext) lo' hi' mx').run P w = .ok (l, hh, if mx.isSome then m else m + ext) w ∧ l ≤ hh ∧ hh ≤ m ∧ m ≤ cap ∧ (mx = none → m = cap) := by
  unfold bounds at h
  split at h
  · simp at h
  · rename_i hnm
    split at h
    · simp at h
    · rename_i m' hm
      split at h
      · simp at h
      · rename_i h' hh'
        obtain ⟨hle, h⟩ := bif_some h
        have hle := Nat.le_of_ble_eq_true hle
        split at h
        · simp at h
        · rename_i l' hl'
          simp only [Option.some.injEq, Prod.mk.injEq] at h
          obtain ⟨rfl, rfl, rfl⟩ := h
          rcases h3 with ⟨rfl, rfl⟩ | ⟨vm, zm, rfl, rfl, hzm⟩
          · simp only [bound, Option.some.injEq] at hm
            subst hm
            rcases h2 with ⟨rfl, rfl⟩ | ⟨vh, zh, rfl, rfl, hzh⟩
            · simp only [bound, Option.some.injEq] at hh'
              subst hh'
              rcases h1 with ⟨rfl, rfl⟩ | ⟨vl, zl, rfl, rfl, hzl⟩
              · simp only [bound, Option.some.injEq] at hl'
                subst hl'
                exact ⟨by simp [Instr.sliceBounds], by omega, hle, by omega, fun _ => rfl⟩
              · obtain ⟨g1, g2⟩ := run_bound (P := P) (w := w) (code := .sliceB) rfl hzl hl' (Nat.le_refl _)
                exact ⟨by simp [Instr.sliceBounds, g1], by omega, hle, by omega, fun _ => rfl⟩
            · obtain ⟨g1, g2⟩ := run_bound (P := P) (w := w) (y := cap + ext) (code := if sl then .sliceAcap else .sliceAlen) rfl hzh hh' (by omega)
              rcases h1 with ⟨rfl, rfl⟩ | ⟨vl, zl, rfl, rfl, hzl⟩
              · simp only [bound, Option.some.injEq] at hl'
                subst hl'
                exact ⟨by simp [Instr.sliceBounds, g1], by omega, hle, by omega, fun _ => rfl⟩
              · obtain ⟨g3, g4⟩ := run_bound (P := P) (w := w) (code := .sliceB) rfl hzl hl' (Nat.le_refl _)
                exact ⟨by simp [Instr.sliceBounds, g1, g3], by omega, hle, by omega, fun _ => rfl⟩
          · obtain ⟨f1, f2⟩ := run_bound (P := P) (w := w) (y := cap + ext) (code := if sl then .slice3Acap else .slice3Alen) rfl hzm hm (by omega)
            rcases h2 with ⟨rfl, rfl⟩ | ⟨vh, zh, rfl, rfl, hzh⟩
            · exact absurd rfl (hnm _ rfl)
            · obtain ⟨g1, g2⟩ := run_bound (P := P) (w := w) (code := .slice3B) rfl hzh hh' (Nat.le_refl _)
              rcases h1 with ⟨rfl, rfl⟩ | ⟨vl, zl, rfl, rfl, hzl⟩
              · simp only [bound, Option.some.injEq] at hl'
                subst hl'
                exact ⟨by simp [Instr.sliceBounds, f1, g1], by omega, hle, by omega, fun h => by cases h⟩
              · obtain ⟨g3, g4⟩ := run_bound (P := P) (w := w) (code := .slice3C) rfl hzl hl' (Nat.le_refl _)
                exact ⟨by simp [Instr.sliceBounds, f1, g1, g3], by omega, hle, by omega, fun h => by cases h⟩
theorem OptOk.ops (E : Ops θ s a) (x : Option Operand) : OptOk θ (x.map s.ev) (x.map a.eval) := by
  cases x with
  | none => exact .inl ⟨rfl, rfl⟩
  | some x => exact .inr ⟨_, _, rfl, rfl, E x⟩
theorem slice_other {t : TypeId} {d : TypeDesc} {x : Value} {lo hi mx : Option Value} (hu : k.p.underlying t = some d) (hn : ∀ n e, d ≠ .array n e) : (Instr.sliceAt t x lo hi mx).run k.p w = (Instr.slice t x lo hi mx).run k.p w := by
  simp only [Instr.sliceAt, Sem.run_bind, run_und hu, Result.andThen_ok]
theorem extract_mk' (l : List UInt8) (i j : Nat) : (ByteArray.mk ⟨l⟩).extract i j = ⟨⟨(l.drop i).take (j - i)⟩⟩ := by
  rw [ByteArray.extract_mk]
theorem some_ite {α : Type} (c : Prop) [Decidable c] (x y : α) : (if c then some x else some y) = some (if c then x else y) := by split <;> rfl
theorem OptOk.none {y : Option Value} (h : OptOk θ none y) : y = Option.none := by
  rcases h with h | ⟨_, _, h1, _⟩
  · exact h.2
  · cases h1
/-- A slice's address: at its end the place stays. -/
theorem sliceOf_conc {b off z l hh m : Nat} {op : Bool} {L : Loc} (hL : θ b = some L) (hop : op = true → m ≠ l) (hlm : l ≤ m) :
    conc θ (sliceOf b off z l hh m op) = some (.slice (some (if m + (if op then L.ext else 0) = l then ⟨L.blk, L.off + off, none⟩ else (⟨L.blk, L.off + off, none⟩ : Addr).add (l * z))) (hh - l) (m - l + if op then L.ext else 0)) := by
  have e1 : ∀ o, conc θ (.sl b o (hh - l) (m - l) op) = some (.slice (some ⟨L.blk, L.off + o, none⟩) (hh - l) (m - l + if op then L.ext else 0)) := fun o => by simp [conc, hL]
  have e2 : sliceOf b off z l hh m op = .sl b (bif Nat.beq m l then off else Nat.add off (Nat.mul l z)) (hh - l) (m - l) op := rfl
  rw [e2, e1]
  congr 3
  rw [add_eq]
  by_cases hml : m = l
  · subst hml
    have : op = false := by cases op <;> simp_all
    subst this
    have : Nat.beq m m = true := Nat.beq_refl m
    rw [this]
    simp
  · have h1 : Nat.beq m l = false := by
      cases hb : Nat.beq m l with
      | false => rfl
      | true => exact absurd (Nat.eq_of_beq_eq_true hb) hml
    rw [h1]
    have h2 : ¬ (m + (if op then L.ext else 0) = l) := by omega
    simp only [h2, if_false, cond_false]
    rw [Nat.add_assoc]; rfl

theorem q_slice {t : TypeId} {x : Operand} {lo hi mx : Option Operand} {v : V} (ho : o.op = .slice t x lo hi mx) (E : Ops θ s a) (hv : evQ0 k h s o = some v) : QOk k.p θ w a o v := by
  have hx := E x
  have olo := OptOk.ops E lo
  have ohi := OptOk.ops E hi
  have omx := OptOk.ops E mx
  simp only [evQ0, ho] at hv
  have ex : (execOp a.eval o) = (do pure (.value (← Instr.sliceAt t (a.eval x) (lo.map a.eval) (hi.map a.eval) (mx.map a.eval))) : Sem Next) := by simp only [execOp, ho]
  have fin : (∃ z, (Instr.sliceAt t (a.eval x) (lo.map a.eval) (hi.map a.eval) (mx.map a.eval)).run k.p w = .ok z w ∧ conc θ v = some z) → QOk k.p θ w a o v := fun ⟨z, hz, hz'⟩ => ⟨z, by rw [ex]; simp [hz], hz'⟩
  apply fin
  clear fin ex
  generalize lo.map s.ev = ulo at *
  generalize hi.map s.ev = uhi at *
  generalize mx.map s.ev = umx at *
  generalize lo.map a.eval = ylo at *
  generalize hi.map a.eval = yhi at *
  generalize mx.map a.eval = ymx at *
  unfold sliceV at hv
  split at hv
  · -- a text
    rename_i hu
    rw [slice_other hu (by simp)]
    split at hv
    · rename_i bs e1
      rw [e1] at hx
      split at hv
      · rename_i l hh m hb
        simp only [Option.some.injEq] at hv; subst hv
        obtain ⟨g1, g2, g3, g4, g5⟩ := run_bounds (P := k.p) (w := w) (ext := 0) (sl := false) olo ohi (.inl ⟨rfl, rfl⟩) hb
        rw [conc_str hx, omx.none]
        refine ⟨.string ⟨⟨(bs.drop l).take (hh - l)⟩⟩, ?_, by simp [conc]⟩
        simp only [Instr.slice, Sem.run_bind, run_und hu, Result.andThen_ok]
        have : (ByteArray.mk ⟨bs⟩).size = bs.length := rfl
        simp only [this]
        simp only [Nat.add_zero] at g1
        simp [g1, extract_mk']
      · simp at hv
    · simp at hv
  · -- a slice
    rename_i e hu
    rw [slice_other hu (by simp)]
    split at hv
    · rename_i b off len cap op e1
      rw [e1] at hx
      obtain ⟨L, hL, e3⟩ := conc_sl hx
      rw [e3]
      split at hv
      · rename_i l hh m z hb hz
        obtain ⟨_, hsz, _⟩ := szOf_spec (w := w) hz
        obtain ⟨g1, g2, g3, g4, g5⟩ := run_bounds (P := k.p) (w := w) (ext := if op then L.ext else 0) (sl := true) olo ohi omx hb
        split at hv
        · -- without a third bound
          obtain rfl := g5 rfl
          simp only [Option.isSome_none, Bool.false_eq_true, if_false] at g1
          have run : (Instr.slice t (.slice (some ⟨L.blk, L.off + off, none⟩) len (m + if op then L.ext else 0)) ylo yhi ymx).run k.p w =
              .ok (.slice (some (if m + (if op then L.ext else 0) = l then ⟨L.blk, L.off + off, none⟩ else (⟨L.blk, L.off + off, none⟩ : Addr).add (l * z))) (hh - l) (m + (if op then L.ext else 0) - l)) w := by
            simp only [Instr.slice, Sem.run_bind, run_und hu, Result.andThen_ok, g1, hsz, Option.map_some, some_ite, Sem.run_pure]
          refine ⟨_, run, ?_⟩
          cases hc : (op && Nat.beq m l) with
          | true =>
            rw [hc] at hv
            simp only [cond_true, Option.some.injEq] at hv; subst hv
            simp only [Bool.and_eq_true] at hc
            obtain ⟨rfl, hml⟩ := hc
            have hml := Nat.eq_of_beq_eq_true hml
            subst hml
            simp only [conc, hL, if_true]
            congr 2
            · rw [add_eq]
              by_cases h0 : L.ext = 0
              · simp [h0]
              · have : ¬ (m + L.ext = m) := by omega
                simp only [h0, this, if_false]
                rw [Nat.add_assoc]; rfl
            · omega
            · omega
          | false =>
            rw [hc] at hv
            simp only [cond_false, Option.some.injEq] at hv; subst hv
            rw [sliceOf_conc hL (fun hop hml => by subst hop hml; simp [Nat.beq_refl] at hc) (by omega)]
            congr 2
            omega
        · rename_i v3
          simp only [Option.isSome_some, if_true] at g1
          simp only [Option.some.injEq] at hv; subst hv
          have run : (Instr.slice t (.slice (some ⟨L.blk, L.off + off, none⟩) len (cap + if op then L.ext else 0)) ylo yhi ymx).run k.p w =
              .ok (.slice (some (if m = l then ⟨L.blk, L.off + off, none⟩ else (⟨L.blk, L.off + off, none⟩ : Addr).add (l * z))) (hh - l) (m - l)) w := by
            simp only [Instr.slice, Sem.run_bind, run_und hu, Result.andThen_ok, g1, hsz, Option.map_some, some_ite, Sem.run_pure]
          refine ⟨_, run, ?_⟩
          rw [sliceOf_conc hL (fun h => by cases h) (by omega)]
          rfl
      · simp at hv
    · rename_i e1
      rw [e1] at hx
      rw [conc_snil hx]
      split at hv
      · rename_i b z hb hz
        obtain ⟨l, hh, m⟩ := b
        obtain ⟨_, hsz, _⟩ := szOf_spec (w := w) hz
        obtain ⟨g1, g2, g3, g4, g5⟩ := run_bounds (P := k.p) (w := w) (ext := 0) (sl := true) olo ohi omx hb
        simp only [Option.some.injEq] at hv; subst hv
        obtain rfl : m = 0 := by omega
        obtain rfl : hh = 0 := by omega
        obtain rfl : l = 0 := by omega
        refine ⟨.slice none 0 0, ?_, by simp [conc]⟩
        simp only [Nat.add_zero, ite_self] at g1
        simp [Instr.slice, run_und hu, g1, hsz]
      · simp at hv
    · rename_i b off o1 e1
      rw [e1] at hx
      obtain ⟨L, hL, e3⟩ := conc_e0 hx
      rw [e3]
      split at hv
      · rename_i b z hz hb
        obtain ⟨l, hh, m⟩ := b
        obtain ⟨_, hsz, _⟩ := szOf_spec (w := w) hz
        obtain ⟨g1, g2, g3, g4, g5⟩ := run_bounds (P := k.p) (w := w) (ext := L.ext) (sl := true) olo ohi omx hb
        simp only [Option.some.injEq] at hv; subst hv
        obtain rfl : m = 0 := by omega
        obtain rfl : hh = 0 := by omega
        obtain rfl : l = 0 := by omega
        simp only [Nat.zero_add, Option.isSome_none, Bool.false_eq_true, if_false] at g1
        refine ⟨_, ?_, e3 ▸ hx⟩
        simp only [Instr.slice, Sem.run_bind, run_und hu, Result.andThen_ok, g1, hsz, Option.map_some]
        simp [Addr.add]
      · simp at hv
    · simp at hv
  · -- an array behind a pointer
    rename_i n e hu
    split at hv
    · rename_i b off e1
      rw [e1] at hx
      obtain ⟨L, hL, e3⟩ := conc_ptr hx
      rw [e3]
      split at hv
      · rename_i l hh m z hb hz
        obtain ⟨_, hsz, _⟩ := szOf_spec (w := w) hz
        obtain ⟨g1, g2, g3, g4, g5⟩ := run_bounds (P := k.p) (w := w) (ext := 0) (sl := false) olo ohi omx hb
        simp only [Option.some.injEq] at hv; subst hv
        have g1 : (Instr.sliceBounds false n n ylo yhi ymx).run k.p w = .ok (l, hh, m) w := by simpa using g1
        refine ⟨_, ?_, sliceOf_conc hL (fun h => by cases h) (by omega)⟩
        simp only [Instr.sliceAt, Sem.run_bind, run_und hu, Result.andThen_ok, Instr.sureAddr, Sem.run_pure, g1, hsz]
        simp
      · simp at hv
    · simp at hv
  · simp at hv

theorem fieldOf_spec {P : Program} {t : TypeId} {f : Nat} {fd : Field} (h : fieldOf P t f = some fd) : ∃ fs, P.underlying t = some (.struct fs) ∧ fs[f]? = some fd := by
  unfold fieldOf at h
  split at h
  · exact ⟨_, by assumption, h⟩
  · simp at h
theorem run_size_ne {P : Program} {t : TypeId} (h : P.cellsOf t ≠ 0) : (sizeOf t).run P w = .ok (P.cellsOf t) w := by
  unfold Program.cellsOf at h ⊢
  cases hi : P.info? t with
  | none => simp [hi] at h
  | some i => simp [sizeOf, run_info hi]
theorem q_faddr {t : TypeId} {x : Operand} {f : Nat} {v : V} (ho : o.op = .fieldAddr t x f) (E : Ops θ s a) (hv : evQ0 k h s o = some v) : QOk k.p θ w a o v := by
  have hx := E x
  simp only [evQ0, ho] at hv
  split at hv
  · rename_i fd hf
    obtain ⟨fs, hu, hfd⟩ := fieldOf_spec hf
    obtain ⟨h0, hv⟩ := bif_none hv
    have h0 : k.p.cellsOf fd.type ≠ 0 := fun e => by rw [e] at h0; simp at h0
    have key : ∀ (b off : Nat), (Instr.fieldAt t (.pointer (some ⟨b, off, none⟩)) f).run k.p w = .ok (.pointer (some ⟨b, off + fd.offset, none⟩)) w := by
      intro b off
      simp only [Instr.fieldAt, Sem.run_bind, run_und hu, Result.andThen_ok, hfd, Instr.sureAddr, Sem.run_pure, fieldPlace, run_size_ne h0, h0, if_false, add_eq]
    split at hv
    · rename_i b off e1
      rw [e1] at hx
      obtain ⟨L, hL, e3⟩ := conc_ptr hx
      simp only [Option.some.injEq] at hv; subst hv
      refine ⟨_, by simp only [execOp, ho, e3, Sem.run_bind, key, Result.andThen_ok, Sem.run_pure]; rfl, ?_⟩
      simp only [conc, hL, Nat.add_assoc]; rfl
    · rename_i b off e1
      rw [e1] at hx
      simp only [Option.some.injEq] at hv; subst hv
      exact ⟨_, by simp only [execOp, ho, conc_gp hx, Sem.run_bind, key, Result.andThen_ok, Sem.run_pure]; rfl, by simp [conc]⟩
    · simp at hv
  · simp at hv
theorem q_field {t : TypeId} {x : Operand} {f : Nat} {v : V} (ho : o.op = .field t x f) (E : Ops θ s a) (hv : evQ0 k h s o = some v) : QOk k.p θ w a o v := by
  have hx := E x
  simp only [evQ0, ho] at hv
  split at hv
  · rename_i fd cs hf e1
    rw [e1] at hx
    obtain ⟨fs, hu, hfd⟩ := fieldOf_spec hf
    obtain ⟨xs, hxs, e3⟩ := conc_agg hx
    obtain ⟨z, hz, hz'⟩ := part_sound (w := w) hv hxs
    exact ⟨z, by simp only [execOp, ho, e3]; simp [Instr.field, run_und hu, hfd, asAgg, hz], hz'⟩
  · simp at hv
theorem q_iaddr {t : TypeId} {x i : Operand} {v : V} (ho : o.op = .indexAddr t x i) (E : Ops θ s a) (hv : evQ0 k h s o = some v) : QOk k.p θ w a o v := by
  have hx := E x
  simp only [evQ0, ho] at hv
  split at hv
  · simp at hv
  · rename_i n hn
    obtain ⟨kk, en⟩ := natOf_spec hn (E i)
    split at hv
    · rename_i m e hu
      split at hv
      · rename_i z hz
        obtain ⟨_, hsz, _⟩ := szOf_spec (w := w) hz
        obtain ⟨hb, hv⟩ := bif_some hv
        have hb : n < m := by simpa [Nat.blt_eq] using hb
        have key : ∀ (b off : Nat), (Instr.indexAt t (.pointer (some ⟨b, off, none⟩)) (.int kk n)).run k.p w = .ok (.pointer (some ⟨b, off + n * z, none⟩)) w := by
          intro b off
          have h1 : (0 : Int) ≤ (n : Int) ∧ (n : Int) < (m : Int) := ⟨by omega, by omega⟩
          simp only [Instr.indexAt, asIntOf, Sem.run_bind, Sem.run_pure, run_und hu, Result.andThen_ok, Instr.sureAddr, h1, and_self, if_true, hsz, add_eq, Int.toNat_natCast]
        split at hv
        · rename_i b off e1
          rw [e1] at hx
          obtain ⟨L, hL, e3⟩ := conc_ptr hx
          simp only [Option.some.injEq] at hv; subst hv
          refine ⟨_, by simp only [execOp, ho, e3, en, Sem.run_bind, key, Result.andThen_ok, Sem.run_pure]; rfl, ?_⟩
          simp only [conc, hL, Nat.add_assoc]; rfl
        · rename_i b off e1
          rw [e1] at hx
          simp only [Option.some.injEq] at hv; subst hv
          exact ⟨_, by simp only [execOp, ho, conc_gp hx, en, Sem.run_bind, key, Result.andThen_ok, Sem.run_pure]; rfl, by simp [conc]⟩
        · simp at hv
      · simp at hv
    · rename_i e hu
      split at hv
      · rename_i b off len cap op z e1 hz
        rw [e1] at hx
        obtain ⟨L, hL, e3⟩ := conc_sl hx
        obtain ⟨_, hsz, _⟩ := szOf_spec (w := w) hz
        obtain ⟨hb, hv⟩ := bif_some hv
        have hb : n < len := by simpa [Nat.blt_eq] using hb
        simp only [Option.some.injEq] at hv; subst hv
        have h1 : (0 : Int) ≤ (n : Int) ∧ (n : Int) < (len : Int) := ⟨by omega, by omega⟩
        have key : (Instr.indexAt t (.slice (some ⟨L.blk, L.off + off, none⟩) len (cap + if op then L.ext else 0)) (.int kk n)).run k.p w = .ok (.pointer (some ⟨L.blk, L.off + off + n * z, none⟩)) w := by
          simp only [Instr.indexAt, asIntOf, Sem.run_bind, Sem.run_pure, run_und hu, Result.andThen_ok, h1, and_self, if_true, hsz, add_eq, Int.toNat_natCast]
        refine ⟨_, by simp only [execOp, ho, e3, en, Sem.run_bind, key, Result.andThen_ok, Sem.run_pure]; rfl, ?_⟩
        simp only [conc, hL, Nat.add_assoc]; rfl
      · simp at hv
    · simp at hv
theorem q_index {t : TypeId} {x i : Operand} {v : V} (ho : o.op = .index t x i) (E : Ops θ s a) (hv : evQ0 k h s o = some v) : QOk k.p θ w a o v := by
  have hx := E x
  simp only [evQ0, ho] at hv
  split at hv
  · simp at hv
  · rename_i n hn
    obtain ⟨kk, en⟩ := natOf_spec hn (E i)
    split at hv
    · rename_i m e hu
      split at hv
      · rename_i cs e1
        rw [e1] at hx
        split at hv
        · rename_i z hz
          obtain ⟨_, hsz, _⟩ := szOf_spec (w := w) hz
          obtain ⟨hb, hv⟩ := bif_some hv
          have hb : n < m := by simpa [Nat.blt_eq] using hb
          obtain ⟨xs, hxs, e3⟩ := conc_agg hx
          obtain ⟨y, hy, hy'⟩ := part_sound (w := w) hv hxs
          have hy : (part e ⟨xs⟩ (n * z)).run k.p w = .ok y w := hy
          have h1 : (0 : Int) ≤ (n : Int) ∧ (n : Int) < (m : Int) := ⟨by omega, by omega⟩
          refine ⟨y, ?_, hy'⟩
          simp only [execOp, ho, e3, en, Instr.index, asIntOf, Sem.run_bind, Sem.run_pure, run_und hu, Result.andThen_ok, h1, and_self, if_true, hsz, Int.toNat_natCast, hy]
        · simp at hv
      · simp at hv
    · rename_i hu
      split at hv
      · rename_i bs e1
        rw [e1] at hx
        split at hv
        · rename_i b hb
          simp only [Option.some.injEq] at hv; subst hv
          rw [nth_eq] at hb
          have hlt : n < bs.length := (List.getElem?_eq_some_iff.1 hb).1
          have h1 : (0 : Int) ≤ (n : Int) := by omega
          have h2 : (⟨⟨bs⟩⟩ : ByteArray)[n]? = some b := by
            have hs : n < (⟨⟨bs⟩⟩ : ByteArray).size := hlt
            rw [getElem?_pos (⟨⟨bs⟩⟩ : ByteArray) n hs]
            have := (List.getElem?_eq_some_iff.1 hb).2
            exact congrArg some this
          refine ⟨.int .u8 b.toNat, ?_, by simp [conc]⟩
          simp only [execOp, ho, conc_str hx, en, Instr.index, asIntOf, Sem.run_bind, Sem.run_pure, run_und hu, Result.andThen_ok, h1, if_true, Int.toNat_natCast, h2]
        · simp at hv
      · simp at hv
    · simp at hv
theorem q_extract {x : Operand} {i : Nat} {v : V} (ho : o.op = .extract x i) (E : Ops θ s a) (hv : evQ0 k h s o = some v) : QOk k.p θ w a o v := by
  have hx := E x
  simp only [evQ0, ho] at hv
  split at hv
  · rename_i vs e1
    rw [e1] at hx
    obtain ⟨xs, hxs, e3⟩ := conc_tup hx
    obtain ⟨y, hy, hy'⟩ := concL_get hxs (by rw [← nth_eq]; exact hv)
    exact ⟨y, by simp only [execOp, ho, e3, Instr.extract]; simp [hy'], hy⟩
  · simp at hv
theorem q_assert {x : Operand} {xt t : TypeId} {ok : Bool} {v : V} (ho : o.op = .typeAssert x xt t ok) (E : Ops θ s a) (hv : evQ0 k h s o = some v) : QOk k.p θ w a o v := by
  have hx := E x
  simp only [evQ0, ho] at hv
  split at hv
  · simp at hv
  · rename_i d u y hn hu e1
    rw [e1] at hx
    obtain ⟨hb, hv2⟩ := bif_some hv
    clear hv
    have hb := Nat.eq_of_beq_eq_true hb
    subst hb
    simp only [Option.some.injEq] at hv2; subst hv2
    obtain ⟨z, hz, e3⟩ := conc_iface hx
    refine ⟨if ok then .tuple #[z, .bool true] else z, ?_, ?_⟩
    · simp only [execOp, ho, e3, Instr.typeAssert, Sem.run_bind, run_und hu, Result.andThen_ok]
      cases d <;> first | exact absurd rfl (hn _) | (cases ok <;> simp; done)
    · cases ok
      · simpa using hz
      · simp [conc, concL, hz]
  · simp at hv
end Go.Proofs.YtnboghpebjciaaaGreatDoor.Ev

namespace Go.Proofs.YtnboghpebjciaaaGreatDoor.Ev
variable [Sym]
variable {k : K} {h : H} {s : S} {a : Act} {θ : Th} {w : World} {o : Oper}

/-! Maps. -/
theorem lookIn_sound {P : Program} {kt e : TypeId} {kd : TypeDesc} {key : V} {y : Value} {ok : Bool} {es : List (V × V × Nat)} {fs : List MapEntry} {v : V} (hk : conc θ key = some y) (hku : P.underlying kt = some kd)
    (ho : OkEs θ es fs) (hv : lookIn P kt e key ok es = some v) :
    (∃ i z, (Instr.findKey kt y fs).run P w = .ok (some (i, z)) w ∧ conc θ v = some (if ok then .tuple #[z, .bool true] else z)) ∨
    (∃ z, (Instr.findKey kt y fs).run P w = .ok none w ∧ (zeroValue e).run P w = .ok z w ∧ conc θ v = some (if ok then .tuple #[z, .bool false] else z)) := by
  unfold lookIn at hv
  split at hv
  · rename_i i key' x born hf
    obtain ⟨r, hr, x', hx, rfl⟩ := findKey_sound (w := w) hku hk ho hf
    simp only [Option.some.injEq] at hv; subst hv
    refine .inl ⟨i, x', hr, ?_⟩
    cases ok
    · simpa using hx
    · simp [conc, concL, hx]
  · rename_i hf
    obtain ⟨r, hr, rfl⟩ := findKey_sound (w := w) hku hk ho hf
    split at hv
    · rename_i z hz
      obtain ⟨i, zv, h1, h2, rfl, h4, h5⟩ := zeroOf_spec (w := w) hz
      simp only [Option.some.injEq] at hv; subst hv
      refine .inr ⟨zv, hr, h5, ?_⟩
      cases ok
      · simpa using conc_ofConst θ zv
      · simp [conc, concL, conc_ofConst θ zv]
    · simp at hv
  · simp at hv
theorem chk_und {P : Program} {d : Nat} {t : TypeId} {v : V} (h : chkV P d t v = true) : ∃ kd, P.underlying t = some kd := by
  cases d with
  | zero => simp [chkV] at h
  | succ d =>
    rw [chkV.eq_def] at h
    simp only at h
    cases hu : P.underlying t with
    | none => simp [hu] at h
    | some kd => exact ⟨kd, rfl⟩
theorem q_lookup {t : TypeId} {x key : Operand} {ok : Bool} {v : V} (ho : o.op = .lookup t x key ok) (E : Ops θ s a) (hr : HRel θ h w) (hv : evQ0 k h s o = some v) : QOk k.p θ w a o v := by
  have hx := E x
  simp only [evQ0, ho] at hv
  split at hv
  · rename_i kt e hu
    split at hv
    · rename_i e1
      rw [e1] at hx
      obtain ⟨hc, hv⟩ := bif_some hv
      obtain ⟨kd, hkd⟩ := chk_und hc
      have hck := chkV_sound (P := k.p) (w := w) true _ _ _ _ hc (E key)
      have hck : (Instr.checkKey true 10000 kt (a.eval key)).run k.p w = .ok () w := hck
      have he : (#[] : Array MapEntry).isEmpty = true := rfl
      rcases lookIn_sound (w := w) (E key) hkd .nil hv with ⟨i, z, h1, h2⟩ | ⟨z, h1, h2, h3⟩
      · exact ⟨_, by simp only [execOp, ho, conc_mnil hx, Instr.lookup, Sem.run_bind, run_und hu, Result.andThen_ok, Sem.run_pure, he, hck, h1], h2⟩
      · exact ⟨_, by simp only [execOp, ho, conc_mnil hx, Instr.lookup, Sem.run_bind, run_und hu, Result.andThen_ok, Sem.run_pure, he, hck, h1, h2], h3⟩
    · rename_i b e1
      rw [e1] at hx
      obtain ⟨L, hL, e3⟩ := conc_mp hx
      split at hv
      · rename_i es clock hg
        obtain ⟨L', hL', h0, fs, h1, h2⟩ := hr b _ hg
        rw [hL] at hL'; cases hL'
        obtain ⟨hc, hv⟩ := bif_some hv
        obtain ⟨kd, hkd⟩ := chk_und hc
        have hck := chkV_sound (P := k.p) (w := w) fs.isEmpty _ _ _ _ hc (E key)
        have hck : (Instr.checkKey fs.isEmpty 10000 kt (a.eval key)).run k.p w = .ok () w := hck
        have hobj : (getObj L.blk).run k.p w = .ok (.map fs clock) w := by simp [getObj, Sem.run, h1]
        rcases lookIn_sound (w := w) (E key) hkd h2 hv with ⟨i, z, h1, h2⟩ | ⟨z, h1, h2, h3⟩
        · exact ⟨_, by simp only [execOp, ho, e3, Instr.lookup, Sem.run_bind, run_und hu, Result.andThen_ok, Sem.run_pure, hobj, hck, h1], h2⟩
        · exact ⟨_, by simp only [execOp, ho, e3, Instr.lookup, Sem.run_bind, run_und hu, Result.andThen_ok, Sem.run_pure, hobj, hck, h1, h2], h3⟩
      · simp at hv
    · simp at hv
  · simp at hv

/-! Rows that are filled. -/
/-- Cells, as an array of the machine's. -/
structure RC (θ : Th) (n : Nat) (c : C) (cells : Array Value) : Prop where
  size : cells.size = n
  fits : c.fits n
  get : ∀ i v, i < n → c.get i = some v → ∃ x, conc θ v = some x ∧ cells[i]? = some x
theorem foldl_sets (off : Nat) : ∀ (l : List Value) (i : Nat) (cs : Array Value), ((l.zipIdx i).foldl (fun cs (p : Value × Nat) => cs.setIfInBounds (off + p.2) p.1) cs).size = cs.size ∧
    ∀ (j : Nat), off + i + l.length ≤ cs.size → ((l.zipIdx i).foldl (fun cs (p : Value × Nat) => cs.setIfInBounds (off + p.2) p.1) cs)[j]? = if off + i ≤ j ∧ j < off + i + l.length then l[j - (off + i)]? else cs[j]?
  | [], i, cs => ⟨rfl, fun j _ => by simp only [List.zipIdx_nil, List.foldl_nil, List.length_nil]; rw [if_neg (by omega)]⟩
  | x :: l, i, cs => by
    obtain ⟨h1, h2⟩ := foldl_sets off l (i + 1) (cs.setIfInBounds (off + i) x)
    refine ⟨by simp only [List.zipIdx_cons, List.foldl_cons]; rw [h1]; simp, fun j hj => ?_⟩
    simp only [List.length_cons] at hj
    simp only [List.zipIdx_cons, List.foldl_cons]
    rw [h2 j (by simp; omega)]
    simp only [List.length_cons]
    by_cases c1 : j = off + i
    · subst c1
      rw [if_neg (by omega), if_pos (by omega)]
      simp [show off + i < cs.size from by omega]
    · by_cases c2 : off + (i + 1) ≤ j ∧ j < off + (i + 1) + l.length
      · rw [if_pos c2, if_pos (by omega)]
        obtain ⟨m, rfl⟩ : ∃ m, j = off + i + 1 + m := ⟨j - (off + i + 1), by omega⟩
        rw [show off + i + 1 + m - (off + (i + 1)) = m from by omega, show off + i + 1 + m - (off + i) = m + 1 from by omega]; simp
      · rw [if_neg c2, if_neg (by omega), Array.getElem?_setIfInBounds_ne (by omega)]
/-- Parts, one by one. -/
def PartsOk (θ : Th) : List (Nat × V) → List (Nat × Value) → Prop
  | [], [] => True
  | (i, v) :: ps, (j, x) :: qs => i = j ∧ conc θ v = some x ∧ PartsOk θ ps qs
  | _, _ => False
theorem parts_ops (E : Ops θ s a) : ∀ l : List (Nat × Operand), PartsOk θ (l.map fun x => (x.1, s.ev x.2)) (l.map fun (i, x) => (i, a.eval x))
  | [] => trivial
  | (_, x) :: l => ⟨rfl, E x, parts_ops E l⟩
theorem fill_sound {place place' : Nat → Option (Nat × Nat)} (hp : ∀ i r, place i = some r → place' i = some r) {n : Nat} : ∀ {ps : List (Nat × V)} {qs : List (Nat × Value)} {c c' : C} {cells : Array Value},
    PartsOk θ ps qs → RC θ n c cells → fillParts place n c ps = some c' → ∃ cells', Instr.fill place' cells qs = some cells' ∧ RC θ n c' cells'
  | [], [], c, c', cells, _, hr, h => by simp [fillParts] at h; subst h; exact ⟨cells, rfl, hr⟩
  | [], _ :: _, c, c', cells, hq, _, _ => hq.elim
  | _ :: _, [], c, c', cells, hq, _, _ => hq.elim
  | (i, v) :: ps, (j, x) :: qs, c, c', cells, hpq, hr, h => by
    obtain ⟨hij, hv, hq⟩ := hpq
    subst hij
    simp only [fillParts] at h
    split at h
    · simp at h
    · rename_i off size hpl
      obtain ⟨hb, h⟩ := bif_some h
      simp only [Bool.and_eq_true] at hb
      have h1 := Nat.eq_of_beq_eq_true hb.1
      have h2 : off + size ≤ n := Nat.le_of_ble_eq_true hb.2
      have hc := conc_cells hv
      have hlen := concL_length hc
      have hsz : x.cells.size = size := by rw [← Array.length_toList, hlen, h1]
      obtain ⟨f1, f2⟩ := foldl_sets off x.cells.toList 0 cells
      have hz : x.cells.zipIdx.foldl (fun cs (c, j) => cs.setIfInBounds (off + j) c) cells = (x.cells.toList.zipIdx 0).foldl (fun cs (p : Value × Nat) => cs.setIfInBounds (off + p.2) p.1) cells := by
        rw [← Array.foldl_toList]; simp
      simp only [Instr.fill, hp _ _ hpl]
      have hcond : (decide (x.cells.size ≠ size) || decide (off + x.cells.size > cells.size)) = false := by
        rw [hsz, hr.size]; simp; omega
      rw [hcond]
      simp only [Bool.false_eq_true, if_false]
      refine fill_sound hp hq ?_ h
      rw [hz]
      refine ⟨f1.trans hr.size, C.fits_put _ _ _ _ hr.fits, fun m u hm hu => ?_⟩
      rw [C.get_put _ _ _ _ (C.fits_mono hr.fits (by omega))] at hu
      rw [f2 m (by rw [Array.length_toList, hsz, hr.size]; omega)]
      by_cases c1 : off ≤ m ∧ m < off + v.cells.length
      · rw [if_pos c1] at hu
        obtain ⟨y, hy, hy'⟩ := concL_get hc hu
        exact ⟨y, hy, by rw [if_pos (by rw [Array.length_toList, hsz]; omega), ← hy']; rfl⟩
      · rw [if_neg c1] at hu
        obtain ⟨y, hy, hy'⟩ := hr.get m u hm hu
        exact ⟨y, hy, by rw [if_neg (by rw [Array.length_toList, hsz]; omega), hy']⟩
theorem fill_list {place : Nat → Option (Nat × Nat)} {n : Nat} : ∀ {ps : List (Nat × V)} {xs ys : List V}, fillParts place n (.l xs) ps = some (.l ys) → ys.length = xs.length := by
  have put_l : ∀ (vs : List V) (i : Nat) (xs : List V), ∃ ys, (C.l xs).put i vs = .l ys ∧ ys.length = xs.length := by
    intro vs
    induction vs with
    | nil => exact fun i xs => ⟨xs, rfl, rfl⟩
    | cons v vs ih =>
      intro i xs
      obtain ⟨ys, h1, h2⟩ := ih (i + 1) (setNth v xs i)
      exact ⟨ys, h1, by rw [h2, setNth_eq]; simp⟩
  intro ps
  induction ps with
  | nil => intro xs ys h; simp [fillParts] at h; subst h; rfl
  | cons p ps ih =>
    intro xs ys h
    obtain ⟨i, v⟩ := p
    simp only [fillParts] at h
    split at h
    · simp at h
    · rename_i off size hpl
      obtain ⟨hb, h⟩ := bif_some h
      obtain ⟨zs, h1, h2⟩ := put_l v.cells off xs
      rw [h1] at h
      rw [ih h, h2]
theorem RC.list {n : Nat} {l : List V} {cells : Array Value} (hr : RC θ n (.l l) cells) (hl : l.length = n) : concL θ l = some cells.toList :=
  concL_of (by rw [Array.length_toList, hr.size, hl]) fun i v hi => by
    have hlt : i < n := by rw [← hl]; exact (List.getElem?_eq_some_iff.1 hi).1
    obtain ⟨x, hx, hx'⟩ := hr.get i v hlt (by simpa [C.get, nth_eq] using hi)
    exact ⟨x, hx, by simpa using hx'⟩
theorem RC.of {n : Nat} {l : List V} {xs : Array Value} (hc : concL θ l = some xs.toList) (hl : l.length = n) : RC θ n (.l l) xs :=
  ⟨by rw [← Array.length_toList, concL_length hc, hl], fun ys e => by cases e; omega, fun i v hi hv => by
    obtain ⟨x, hx, hx'⟩ := concL_get hc (by simpa [C.get, nth_eq] using hv)
    exact ⟨x, hx, by simpa using hx'⟩⟩
theorem run_mapM_places {P : Program} : ∀ (fs : List Field), (fs.all fun f => (szOf P f.type).isSome) = true →
    (fs.mapM (fun f => do pure (f.offset, ← sizeOf f.type) : Field → Sem (Nat × Nat))).run P w = .ok (fs.map fun f => (f.offset, P.cellsOf f.type)) w
  | [], _ => by simp
  | f :: fs, h => by
    simp only [List.all_cons, Bool.and_eq_true] at h
    obtain ⟨n, hn⟩ := Option.isSome_iff_exists.1 h.1
    obtain ⟨rfl, h2, _⟩ := szOf_spec (w := w) hn
    simp only [List.mapM_cons, Sem.run_bind, h2, Result.andThen_ok, Sem.run_pure, run_mapM_places fs h.2]
    simp
theorem q_build {t : TypeId} {parts : Array (Nat × Operand)} {v : V} (ho : o.op = .build t parts) (E : Ops θ s a) (hv : evQ0 k h s o = some v) : QOk k.p θ w a o v := by
  simp only [evQ0, ho] at hv
  have hps := parts_ops E parts.toList
  have hmap : (parts.map fun (i, x) => (i, a.eval x)).toList = parts.toList.map fun (i, x) => (i, a.eval x) := by simp
  split at hv
  · simp at hv
  · rename_i z hz
    obtain ⟨i, zv, h1, h2, rfl, h4, h5⟩ := zeroOf_spec (w := w) hz
    have hc := conc_cells (conc_ofConst θ zv)
    have hrc : RC θ (k.p.cellsOf t) (.l (ofConst zv).cells) zv.cells := RC.of hc h4
    split at hv
    · rename_i fs hu
      obtain ⟨hall, hv⟩ := bif_none hv
      have hall : (fs.toList.all fun f => (szOf k.p f.type).isSome) = true := by simpa using hall
      split at hv
      · rename_i l hl
        simp only [Option.some.injEq] at hv; subst hv
        have hpl : (fs.mapM (fun f => do pure (f.offset, ← sizeOf f.type) : Field → Sem (Nat × Nat))).run k.p w = .ok (fs.map fun f => (f.offset, k.p.cellsOf f.type)) w := by
          rw [Array.mapM_eq_mapM_toList]
          simp only [Sem.run_map, run_mapM_places _ hall, Result.andThen_ok]
          congr 1
          apply Array.ext'
          simp
        obtain ⟨cells', g1, g2⟩ := fill_sound (place' := fun i => (fs.map fun f => (f.offset, k.p.cellsOf f.type))[i]?) (fun i r hr => by
          unfold places at hr
          split at hr
          · rename_i f hf; simp [hf]; simpa using hr
          · simp at hr) hps hrc hl
        refine ⟨.agg cells', ?_, ?_⟩
        · simp only [execOp, ho, Instr.build, Sem.run_bind, h5, run_und hu, Result.andThen_ok, hpl, hmap, g1, Sem.run_pure]
        · have := g2.list ((fill_list hl).trans h4)
          simp only [conc, this]
      · simp at hv
    · rename_i m e hu
      split at hv
      · rename_i n hn
        obtain ⟨_, hsz, _⟩ := szOf_spec (w := w) hn
        split at hv
        · rename_i l hl
          simp only [Option.some.injEq] at hv; subst hv
          obtain ⟨cells', g1, g2⟩ := fill_sound (place' := fun i => some (i * n, n)) (fun i r hr => hr) hps hrc hl
          refine ⟨.agg cells', ?_, ?_⟩
          · simp only [execOp, ho, Instr.build, Sem.run_bind, h5, run_und hu, Result.andThen_ok, hsz, hmap, g1, Sem.run_pure]
          · have := g2.list ((fill_list hl).trans h4)
            simp only [conc, this]
        · simp at hv
      · simp at hv
    · simp at hv
end Go.Proofs.YtnboghpebjciaaaGreatDoor.Ev

namespace Go.Proofs.YtnboghpebjciaaaGreatDoor.Ev
variable [Sym]
variable {k : K} {h : H} {s : S} {a : Act} {θ : Th} {w : World} {o : Oper}

theorem OkEs.find {stamp : Nat} {kk v : V} {n : Nat} : ∀ {es : List (V × V × Nat)} {fs : List MapEntry}, OkEs θ es fs → es.find? (fun e => Nat.beq e.2.2 stamp) = some (kk, v, n) →
    ∃ e, fs.find? (fun e => e.born == stamp) = some e ∧ conc θ kk = some e.key ∧ conc θ v = some e.val
  | [], fs, ho, h => by simp at h
  | x :: es, fs, ho, h => by
    cases ho with
    | @cons _ e _ es' he ho =>
    obtain ⟨h1, h2, h3⟩ := he
    simp only [List.find?_cons] at h ⊢
    have hb : (e.born == stamp) = Nat.beq x.2.2 stamp := by rw [h3, Bool.eq_iff_iff]; simp
    rw [hb]
    cases hq : Nat.beq x.2.2 stamp with
    | true =>
      rw [hq] at h
      simp only [Option.some.injEq] at h
      subst h
      exact ⟨e, rfl, h1, h2⟩
    | false =>
      rw [hq] at h
      exact OkEs.find ho h
theorem q_entry {x : Operand} {v : V} (ho : o.op = .entry x) (E : Ops θ s a) (hr : HRel θ h w) (hv : evQ0 k h s o = some v) : QOk k.p θ w a o v := by
  have hx := E x
  simp only [evQ0, ho] at hv
  split at hv
  · rename_i b e1
    rw [e1] at hx
    obtain ⟨L, hL, e3⟩ := conc_ptr hx
    split at hv
    · rename_i m since seen stepped hg
      obtain ⟨L', hL', h0, m', h1, M, hM, rfl⟩ := hr b _ hg
      rw [hL] at hL'; cases hL'
      split at hv
      · rename_i es clock hgm
        obtain ⟨M', hM', h0m, fs, h2, h3⟩ := hr m _ hgm
        rw [hM] at hM'; cases hM'
        obtain ⟨hcl, hv2⟩ := bif_some hv
        clear hv
        have hv := hv2
        clear hv2
        have hcl := Nat.eq_of_beq_eq_true hcl
        subst hcl
        split at hv
        · rename_i stamp hst
          split at hv
          · rename_i kk v' n hf
            simp only [Option.some.injEq] at hv; subst hv
            obtain ⟨e, g1, g2, g3⟩ := h3.find hf
            have o1 : (getObj L.blk).run k.p w = .ok (.mapIter (some M.blk) since ⟨seen⟩ clock) w := by simp [getObj, Sem.run, h1]
            have o2 : (getObj M.blk).run k.p w = .ok (.map fs clock) w := by simp [getObj, Sem.run, h2]
            have o3 : (⟨seen⟩ : Array Nat).back? = some stamp := by rw [← Array.getLast?_toList]; exact hst
            have o4 : fs.find? (fun e => e.born == stamp) = some e := by rw [← Array.find?_toList]; exact g1
            refine ⟨.tuple #[e.key, e.val], ?_, by simp [conc, concL, g2, g3]⟩
            rw [h0] at e3
            simp only [execOp, ho, e3, Instr.entry, Sem.run_bind, o1, o2, o3, o4, Result.andThen_ok, bne_self_eq_false, Bool.false_eq_true, if_false, Sem.run_pure, Nat.add_zero]
          · simp at hv
        · simp at hv
      · simp at hv
    · simp at hv
  · simp at hv

theorem minmax_sound {mx : Bool} : ∀ (vs : List V) (v : V) (x : Value) (xs : List Value) (u : V), conc θ v = some x → concL θ vs = some xs → minmax mx v vs = some u →
    ∃ z, (xs.foldlM (if mx then Builtin.max2 else Builtin.min2) x).run k.p w = .ok z w ∧ conc θ u = some z
  | [], v, x, xs, u, hv, hs, h => by
    simp [minmax] at h; subst h
    simp [concL] at hs; subst hs
    exact ⟨x, by simp, hv⟩
  | y :: vs, v, x, xs, u, hv, hs, h => by
    obtain ⟨y', ys, h1, h2, rfl⟩ := concL_cons.1 hs
    simp only [minmax] at h
    split at h
    · rename_i kk n jj m
      have hx := conc_int hv
      have hy := conc_int h1
      subst hx hy
      obtain ⟨z, hz, hz'⟩ := minmax_sound vs _ (.int kk (bif (bif mx then ltI n m else ltI m n) then m else n)) ys u (by simp [conc]) h2 h
      refine ⟨z, ?_, hz'⟩
      rw [← hz]
      cases mx
      · simp only [List.foldlM_cons, Bool.false_eq_true, if_false, cond_false, Builtin.min2, Sem.run_bind, Sem.run_pure, Result.andThen_ok, ltI_eq]
        congr 3
        by_cases c : m < n <;> simp [c]
      · simp only [List.foldlM_cons, if_true, cond_true, Builtin.max2, Sem.run_bind, Sem.run_pure, Result.andThen_ok, ltI_eq]
        congr 3
        by_cases c : n < m <;> simp [c]
    · simp at h

theorem exec_builtin {c : Call} {b : Builtin} (ho : o.op = .call c) (hb : c.callee = .builtin b) :
    ∃ cs, (execOp a.eval o).run k.p w = (builtin b c.argTypes o.type cs (c.args.map a.eval)).run k.p w := by
  refine ⟨c.args.map fun | .const _ => true | _ => false, ?_⟩
  simp only [execOp, ho, resolve, hb, Sem.run_bind, Sem.run_pure, Result.andThen_ok, invoke]
  rfl
theorem q_call {c : Call} {v : V} (ho : o.op = .call c) (E : Ops θ s a) (hr : HRel θ h w) (hv : evQ0 k h s o = some v) : QOk k.p θ w a o v := by
  simp only [evQ0, ho] at hv
  split at hv
  · rename_i b hb
    have hargs := E.list c.args.toList
    have hmap : (c.args.map a.eval) = ⟨c.args.toList.map a.eval⟩ := by apply Array.ext'; simp
    obtain ⟨cs, hex⟩ := exec_builtin (k := k) (w := w) (a := a) ho hb
    rw [hmap] at hex
    generalize c.args.toList.map s.ev = us at hv hargs
    generalize c.args.toList.map a.eval = xs at hargs hex
    split at hv
    · -- len
      rename_i u
      obtain ⟨x, ys, hx, hys, rfl⟩ := concL_cons.1 hargs
      rw [concL_nil] at hys
      cases hys
      cases ht : c.argTypes[0]? with
      | none => simp [ht] at hv
      | some t =>
        simp only [ht, Option.bind_some] at hv
        split at hv
        · rename_i n e hu
          simp only [Option.some.injEq] at hv; subst hv
          exact ⟨_, by rw [hex]; simp [builtin, Builtin.len_, ht, run_und hu, goInt]; rfl, by simp [conc]⟩
        · rename_i e hu
          split at hv
          · rename_i n e' hu'
            simp only [Option.some.injEq] at hv; subst hv
            exact ⟨_, by rw [hex]; simp [builtin, Builtin.len_, ht, run_und hu, run_und hu', goInt]; rfl, by simp [conc]⟩
          · simp at hv
        · rename_i hu
          split at hv
          · rename_i bs
            simp only [Option.some.injEq] at hv; subst hv
            exact ⟨_, by rw [hex, conc_str hx]; simp [builtin, Builtin.len_, ht, run_und hu, goInt]; rfl, by simp [conc]; rfl⟩
          · simp at hv
        · rename_i e hu
          split at hv
          · simp at hv
          · rename_i hns
            split at hv
            · rename_i n hn
              simp only [Option.some.injEq] at hv; subst hv
              refine ⟨.int .i64 n, ?_, by simp [conc]⟩
              rw [hex]
              cases u <;> simp only [lenS, Option.some.injEq, reduceCtorEq] at hn
              · exact absurd rfl (hns _)
              · subst hn; rw [conc_snil hx]; simp [builtin, Builtin.len_, ht, run_und hu, goInt]
              · subst hn; obtain ⟨L, hL, e3⟩ := conc_sl hx; rw [e3]; simp [builtin, Builtin.len_, ht, run_und hu, goInt]
              · subst hn; obtain ⟨L, hL, e3⟩ := conc_e0 hx; rw [e3]; simp [builtin, Builtin.len_, ht, run_und hu, goInt]
            · simp at hv
        · rename_i kt e hu
          split at hv
          · simp only [Option.some.injEq] at hv; subst hv
            exact ⟨_, by rw [hex, conc_mnil hx]; simp [builtin, Builtin.len_, ht, run_und hu, goInt]; rfl, by simp [conc]⟩
          · rename_i b'
            split at hv
            · rename_i es clock hg
              simp only [Option.some.injEq] at hv; subst hv
              obtain ⟨L, hL, e3⟩ := conc_mp hx
              obtain ⟨L', hL', h0, fs, h1, h2⟩ := hr _ _ hg
              rw [hL] at hL'; cases hL'
              have o1 : (getObj L.blk).run k.p w = .ok (.map fs clock) w := by simp [getObj, Sem.run, h1]
              have o2 : fs.size = es.length := by rw [← Array.length_toList]; exact h2.length
              exact ⟨_, by rw [hex, e3]; simp [builtin, Builtin.len_, ht, run_und hu, o1, goInt]; rfl, by simp [conc, o2]⟩
            · simp at hv
          · simp at hv
        · simp at hv
    · -- cap
      rename_i u
      obtain ⟨x, ys, hx, hys, rfl⟩ := concL_cons.1 hargs
      rw [concL_nil] at hys
      cases hys
      cases ht : c.argTypes[0]? with
      | none => simp [ht] at hv
      | some t =>
        simp only [ht, Option.bind_some] at hv
        split at hv
        · rename_i e hu
          split at hv
          · simp only [Option.some.injEq] at hv; subst hv
            exact ⟨_, by rw [hex, conc_snil hx]; simp [builtin, Builtin.cap_, ht, run_und hu, goInt]; rfl, by simp [conc]⟩
          · simp only [Option.some.injEq] at hv; subst hv
            obtain ⟨L, hL, e3⟩ := conc_sl hx
            exact ⟨_, by rw [hex, e3]; simp [builtin, Builtin.cap_, ht, run_und hu, goInt]; rfl, by simp [conc]⟩
          · simp at hv
        · simp at hv
    · -- min
      rename_i u us
      obtain ⟨x, ys, hx, hys, rfl⟩ := concL_cons.1 hargs
      obtain ⟨z, hz, hz'⟩ := minmax_sound (k := k) (w := w) _ _ _ _ _ hx hys hv
      exact ⟨z, by rw [hex]; simp only [builtin, Builtin.min_, Sem.run_bind]; simp only [Bool.false_eq_true, if_false] at hz; rw [hz]; rfl, hz'⟩
    · rename_i u us
      obtain ⟨x, ys, hx, hys, rfl⟩ := concL_cons.1 hargs
      obtain ⟨z, hz, hz'⟩ := minmax_sound (k := k) (w := w) _ _ _ _ _ hx hys hv
      exact ⟨z, by rw [hex]; simp only [builtin, Builtin.max_, Sem.run_bind]; simp only [if_true] at hz; rw [hz]; rfl, hz'⟩
    · simp at hv
  · simp at hv

/-- **A QUIET OPERATION**, whatever it is. -/
theorem evQ0_sound {v : V} (E : Ops θ s a) (hr : HRel θ h w) (hg : GRel k.gl fun i => w.heap[i]?) (hv : evQ0 k h s o = some v) : QOk k.p θ w a o v := by
  cases ho : o.op
  case move x => simp only [evQ0, ho, Option.some.injEq] at hv; subst hv; exact q_move ho E
  case assign x => simp only [evQ0, ho, Option.some.injEq] at hv; subst hv; exact q_assign ho E
  case pick c x y =>
    simp only [evQ0, ho] at hv
    split at hv
    · rename_i t e1; simp only [Option.some.injEq] at hv; subst hv; exact q_pick ho E e1
    · simp at hv
  case load t x => simp only [evQ0, ho] at hv; exact q_load ho E hr hg hv
  case nilCheck x =>
    simp only [evQ0, ho] at hv
    split at hv
    · rename_i e1; simp only [Option.some.injEq] at hv; subst hv; exact q_nil1 ho E e1
    · rename_i e1; simp only [Option.some.injEq] at hv; subst hv; exact q_nil2 ho E e1
    · simp at hv
  case binOp op t x y yt =>
    simp only [evQ0, ho] at hv
    obtain ⟨h1, h2⟩ := bif_some hv
    exact q_bin ho E h1 h2
  case unOp op t x => simp only [evQ0, ho] at hv; exact q_un ho E hv
  case convert src dst x => exact q_convert ho E hr hv
  case sliceToArrayPointer d x => exact q_s2ap ho E hv
  case makeInterface t x => exact q_iface ho E hv
  case makeFunc fn f c => exact q_func ho E hv
  case slice t x lo hi mx => exact q_slice ho E hv
  case fieldAddr t x f => exact q_faddr ho E hv
  case field t x f => exact q_field ho E hv
  case indexAddr t x i => exact q_iaddr ho E hv
  case index t x i => exact q_index ho E hv
  case lookup t x key ok => exact q_lookup ho E hr hv
  case typeAssert x xt t ok => exact q_assert ho E hv
  case extract x i => exact q_extract ho E hv
  case build t ps => exact q_build ho E hv
  case entry x => exact q_entry ho E hr hv
  case call c => exact q_call ho E hr hv
  all_goals simp only [evQ0, ho, reduceCtorEq] at hv
theorem evQ_eq (k : K) (h : H) (s : S) (o : Oper) : evQ k h s o = evQ0 k h s o := by
  cases ho : o.op <;> simp only [evQ, evQ0, ho] <;> rfl
theorem evQ_sound {v : V} (E : Ops θ s a) (hr : HRel θ h w) (hg : GRel k.gl fun i => w.heap[i]?) (hv : evQ k h s o = some v) : QOk k.p θ w a o v := evQ0_sound E hr hg (by rw [← evQ_eq]; exact hv)
end Go.Proofs.YtnboghpebjciaaaGreatDoor.Ev
