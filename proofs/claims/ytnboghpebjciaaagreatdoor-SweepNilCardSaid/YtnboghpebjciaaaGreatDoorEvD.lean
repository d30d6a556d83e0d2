/-
  Codes, calls and regions that draw their order: what the evaluator finds of a call holds of the machine, whatever world it begins in and whatever the tape says; conditions: the listed variables hold what the evaluator was told, and the program mixes its orders.
-/
import Derived.Test.YtnboghpebjciaaaGreatDoorEvC
import Derived.CallsIn
import Derived.RangeFuncIn
import Derived.RangeFuncLeaves
import Derived.OrdersIn
import Derived.OrdersHeld
set_option linter.unusedSectionVars false
set_option linter.unusedVariables false
set_option linter.unusedSimpArgs false
namespace Go.Proofs.YtnboghpebjciaaaGreatDoor.Ev
variable [Sym]
variable {k : K} {h h' : H} {s : S} {a : Act} {θ : Th} {w w' : World} {o : Oper} {Φ : Fr}

/-! A frame. -/
def DOk (θ : Th) : List D → List Deferred → Prop
  | [], [] => True
  | .coll b :: ds, d :: es => (∃ L, θ b = some L ∧ d.target = .collected L.blk) ∧ DOk θ ds es
  | .fn f args :: ds, d :: es => (∃ first cap ys cs, args = first ++ cap ∧ concL θ first = some ys ∧ concL θ cap = some cs ∧ d = { target := .fn (.func f) ⟨cs⟩, args := ⟨ys⟩ }) ∧ DOk θ ds es
  | _, _ => False
theorem DOk.le {θ θ' : Th} (hle : θ.le θ') : ∀ {ds : List D} {es : List Deferred}, DOk θ ds es → DOk θ' ds es
  | [], [], _ => trivial
  | [], _ :: _, h => h.elim
  | .coll b :: ds, [], h => h.elim
  | .fn f args :: ds, [], h => h.elim
  | .coll b :: ds, d :: es, ⟨⟨L, h1, h2⟩, h3⟩ => ⟨⟨L, hle _ _ h1, h2⟩, h3.le hle⟩
  | .fn f args :: ds, d :: es, ⟨⟨a, c, ys, cs, h1, h2, h3, h4⟩, h5⟩ => ⟨⟨a, c, ys, cs, h1, concL_le hle _ _ h2, concL_le hle _ _ h3, h4⟩, h5.le hle⟩

structure SRel (Φ : Fr) (θ : Th) (s : S) (a : Act) (w : World) : Prop where
  tmps : OkTmps θ s.e s.sz a.tmps
  defs : DOk θ s.d a.defers
  inv : Inv Φ θ s.h w
theorem SRel.ops (h : SRel Φ θ s a w) : Ops θ s a := fun x => eval_conc h.tmps x

def XOk (θ : Th) : X → Exit → Prop
  | .normal, e => e = .normal
  | .exit id, e => e = .exit id
  | .ret, e => e = .ret
  | .pan v, e => ∃ x, conc θ v = some x ∧ e = .panic [{ v := x, recovered := false }]
/-- One of the ways that a code may end. -/
def OutOk (Φ : Fr) (θ : Th) (outs : Outs) (e : Exit) (a : Act) (w : World) : Prop := ∃ x s θ', (x, s) ∈ outs ∧ θ.le θ' ∧ XOk θ' x e ∧ SRel Φ θ' s a w
theorem OutOk.le {θ θ' : Th} {outs : Outs} {e : Exit} (hle : θ.le θ') (h : OutOk Φ θ' outs e a w) : OutOk Φ θ outs e a w := by
  obtain ⟨x, s, θ₂, h1, h2, h3, h4⟩ := h
  exact ⟨x, s, θ₂, h1, Th.le_trans hle h2, h3, h4⟩
theorem OutOk.sub {outs outs' : Outs} {e : Exit} (hs : ∀ p ∈ outs, p ∈ outs') (h : OutOk Φ θ outs e a w) : OutOk Φ θ outs' e a w := by
  obtain ⟨x, s, θ₂, h1, h2, h3, h4⟩ := h
  exact ⟨x, s, θ₂, hs _ h1, h2, h3, h4⟩
/-- One of the ways that a call may end. -/
def EOk (Φ : Fr) (θ : Th) (es : List E) : Ending → World → Prop
  | .returned x, w => ∃ v h θ', .ret v h ∈ es ∧ θ.le θ' ∧ conc θ' v = some x ∧ Inv Φ θ' h w
  | .panicked chain, w => ∃ v h θ' x, .pan v h ∈ es ∧ θ.le θ' ∧ conc θ' v = some x ∧ chain = [{ v := x, recovered := false }] ∧ Inv Φ θ' h w
  | .outgrown, _ => False

theorem put_sound {s s' : S} {d : Option Tmp} {v : V} {x : Value} (hp : s.put d v = some s') (h : SRel Φ θ s a w) (hv : conc θ v = some x) : SRel Φ θ s' (a.put d x) w := by
  unfold S.put at hp
  split at hp
  · simp only [Option.some.injEq] at hp; subst hp; exact h
  · rename_i d
    have hb := (bif_some hp).1
    replace hp := (bif_some hp).2
    simp only [Option.some.injEq] at hp; subst hp
    exact ⟨h.tmps.set (Nat.lt_of_succ_le (Nat.le_of_ble_eq_true hb)) hv, h.defs, h.inv⟩
theorem put_h {s s' : S} {d : Option Tmp} {v : V} (h : H) (hp : s.put d v = some s') : ({ s with h := h } : S).put d v = some { s' with h := h } := by
  unfold S.put at hp ⊢
  split at hp
  · simp only [Option.some.injEq] at hp; subst hp; rfl
  · have hb := (bif_some hp).1
    replace hp := (bif_some hp).2
    simp only [Option.some.injEq] at hp; subst hp
    simp only [hb, cond_true]

theorem wanted_sound {ops : Array Oper} {b : Bool} (h : SRel Φ θ s a w) (hw : wantedV ops s o = some b) : Region.wanted o (yielded ops a.tmps) = b := by
  unfold wantedV at hw
  simp only [Region.wanted]
  split at hw
  · rename_i hg; simp only [Option.some.injEq] at hw; subst hw; rw [hg]
  · rename_i j want hg
    rw [hg]
    simp only
    split at hw
    · simp at hw
    · rename_i d hd
      simp only [yielded, hd, Option.bind_some]
      have key : ∀ v, s.e.get d = some v → conc θ v = a.tmps[d]? := fun v hv => by
        have hlt : d < s.sz := Nat.lt_of_not_le fun hle => by rw [h.tmps.2.2 d hle] at hv; cases hv
        have := h.tmps.2.1 d hlt
        have hlt' : d < a.tmps.size := by rw [h.tmps.1]; exact hlt
        simp only [evT, hv] at this
        rw [this, Array.getD_eq_getD_getElem?]
        simp [hlt']
      split at hw
      · rename_i c hc
        simp only [Option.some.injEq] at hw; subst hw
        rw [← key _ hc]
        simp [conc]
      · rename_i hc
        simp only [Option.some.injEq] at hw; subst hw
        rw [← key _ hc]
        simp [conc, concL]
      · rename_i hc
        simp only [Option.some.injEq] at hw; subst hw
        have : a.tmps[d]? = none ∨ a.tmps[d]? = some undef := by
          by_cases hlt : d < s.sz
          · have := h.tmps.2.1 d hlt
            have hlt' : d < a.tmps.size := by rw [h.tmps.1]; exact hlt
            simp only [evT, hc, conc_undef, Option.some.injEq] at this
            right
            rw [Array.getD_eq_getD_getElem?] at this
            simp [hlt'] at this ⊢
            exact this.symm
          · left
            rw [Array.getElem?_eq_none_iff, h.tmps.1]; exact Nat.le_of_not_lt hlt
        rcases this with h' | h' <;> rw [h'] <;> rfl
      · simp at hw

/-! Where a walk goes: a fence that keeps nothing out. -/
def FOk (rd : Bool) (F : Fence) : Prop := (rd = false ∧ F = Fence.wide) ∨ (rd = true ∧ ∃ l, F = Fence.wide.inRound l)
theorem FOk.fn {rd : Bool} {F : Fence} (h : FOk rd F) (f : FuncId) : F.fn f := by rcases h with ⟨_, rfl⟩ | ⟨_, l, rfl⟩ <;> trivial
theorem FOk.depth {rd : Bool} {F : Fence} (h : FOk rd F) : F.depth.isSome = true → False := by rcases h with ⟨_, rfl⟩ | ⟨_, l, rfl⟩ <;> simp [Fence.wide, Fence.inRound]

structure RunOk (k : K) (run : Run) : Prop where
  f : ∀ {f args h es}, run.f f args h = some es → ∀ {Φ : Fr} {θ : Th} {w : World} {xs : List Value}, GRel k.gl Φ.blk → concL θ args = some xs → Inv Φ θ h w → CallsIn Fence.wide 0 k.p f ⟨xs⟩ w (EOk Φ θ es)
  y : ∀ {l args h es}, run.y l args h = some es → ∀ {Φ : Fr} {θ : Th} {w : World} {xs : List Value} {L : Loc}, GRel k.gl Φ.blk → θ l = some L → concL θ args = some xs → Inv Φ θ h w →
    ∃ fn tmps assign body, (Instr.yield L.blk ⟨xs⟩).run k.p w = .ok (.round L.blk fn tmps assign body) w ∧ RoundIn Fence.wide 0 k.p L.blk fn tmps assign body w (EOk Φ θ es)

theorem after_ret {s : S} {o : Oper} {v : V} {h : H} : ∀ {es : List E} {l : Outs}, after s o es = some l → E.ret v h ∈ es → ∃ s', ({ s with h := h } : S).put o.dst v = some s' ∧ (X.normal, s') ∈ l
  | [], _, _, hm => by simp at hm
  | e :: r, l, ha, hm => by
    cases e with
    | ret v' h' =>
      simp only [after] at ha
      split at ha
      · rename_i s' hs'
        split at ha
        · rename_i l' hl'
          simp only [Option.some.injEq] at ha; subst ha
          rcases List.mem_cons.1 hm with hm | hm
          · cases hm; exact ⟨s', hs', List.mem_cons_self⟩
          · obtain ⟨s2, h1, h2⟩ := after_ret hl' hm
            exact ⟨s2, h1, List.mem_cons_of_mem _ h2⟩
        · simp at ha
      · simp at ha
    | pan v' h' =>
      simp only [after] at ha
      split at ha
      · rename_i l' hl'
        simp only [Option.some.injEq] at ha; subst ha
        rcases List.mem_cons.1 hm with hm | hm
        · cases hm
        · obtain ⟨s2, h1, h2⟩ := after_ret hl' hm
          exact ⟨s2, h1, List.mem_cons_of_mem _ h2⟩
      · simp at ha
theorem after_pan {s : S} {o : Oper} {v : V} {h : H} : ∀ {es : List E} {l : Outs}, after s o es = some l → E.pan v h ∈ es → (X.pan v, ({ s with h := h } : S)) ∈ l
  | [], _, _, hm => by simp at hm
  | e :: r, l, ha, hm => by
    cases e with
    | ret v' h' =>
      simp only [after] at ha
      split at ha
      · split at ha
        · rename_i l' hl'
          simp only [Option.some.injEq] at ha; subst ha
          rcases List.mem_cons.1 hm with hm | hm
          · cases hm
          · exact List.mem_cons_of_mem _ (after_pan hl' hm)
        · simp at ha
      · simp at ha
    | pan v' h' =>
      simp only [after] at ha
      split at ha
      · rename_i l' hl'
        simp only [Option.some.injEq] at ha; subst ha
        rcases List.mem_cons.1 hm with hm | hm
        · cases hm; exact List.mem_cons_self
        · exact List.mem_cons_of_mem _ (after_pan hl' hm)
      · simp at ha
theorem putAll_mem {s : S} {o : Oper} {v : V} {h : H} : ∀ {es : List (V × H)} {l : Outs}, putAll s o es = some l → (v, h) ∈ es → ∃ s', ({ s with h := h } : S).put o.dst v = some s' ∧ (X.normal, s') ∈ l
  | [], _, _, hm => by simp at hm
  | (v', h') :: r, l, ha, hm => by
    simp only [putAll] at ha
    split at ha
    · rename_i s' hs'
      split at ha
      · rename_i l' hl'
        simp only [Option.some.injEq] at ha; subst ha
        rcases List.mem_cons.1 hm with hm | hm
        · cases hm; exact ⟨s', hs', List.mem_cons_self⟩
        · obtain ⟨s2, h1, h2⟩ := putAll_mem hl' hm
          exact ⟨s2, h1, List.mem_cons_of_mem _ h2⟩
      · simp at ha
    · simp at ha

theorem ok1_some {s : Option S} {l : Outs} (h : ok1 s = some l) : ∃ s', s = some s' ∧ l = [(.normal, s')] := by
  cases s with
  | none => simp [ok1] at h
  | some s => simp only [ok1, Option.some.injEq] at h; exact ⟨s, rfl, h.symm⟩

theorem quiet_noDefer {P : Program} (hq : quiet P o.op = true) (c : Call) : o.op ≠ .defer c := by
  intro hc; rw [hc] at hq; simp [quiet] at hq

/-- A call's ends, as the operation's. -/
theorem afters_sound {next : Act → World → Prop} {Q : Exit → Act → World → Prop} {es : Option (List E)} {es' : List E} {outs : Outs} (he : es = some es') (hv : afters s o es = some outs) (hS : SRel Φ θ s a w)
    (hQ : ∀ e a w, OutOk Φ θ outs e a w → Exit.then next Q e a w) : ∀ e w', EOk Φ θ es' e w' → (match e with
      | .returned v => next (a.put o.dst v) w'
      | .panicked chain => Q (.panic chain) a w'
      | .outgrown => LetsOut Q) := by
  subst he
  simp only [afters] at hv
  intro e w' hE
  cases e with
  | returned x =>
    obtain ⟨v, h, θ', h1, h2, h3, h4⟩ := hE
    obtain ⟨s', g1, g2⟩ := after_ret hv h1
    exact hQ .normal _ _ ⟨.normal, s', θ', g2, h2, rfl, put_sound g1 ⟨hS.tmps.le h2, hS.defs.le h2, h4⟩ h3⟩
  | panicked chain =>
    obtain ⟨v, h, θ', x, h1, h2, h3, rfl, h4⟩ := hE
    exact hQ (.panic _) _ _ ⟨.pan v, _, θ', after_pan hv h1, h2, ⟨x, h3, rfl⟩, ⟨hS.tmps.le h2, hS.defs.le h2, h4⟩⟩
  | outgrown => exact hE.elim

theorem evOp_sound (hk : k.Ok) {run : Run} (hr : RunOk k run) {F : Fence} (hF : FOk run.rd F) (hg : GRel k.gl Φ.blk) {outs : Outs} (hv : evOp k run s o = some outs) (hS : SRel Φ θ s a w)
    {next : Act → World → Prop} {Q : Exit → Act → World → Prop} (hQ : ∀ e a w, OutOk Φ θ outs e a w → Exit.then next Q e a w) : o.wpIn F 0 k.p a w next Q := by
  refine ⟨fun f _ => hF.fn f, ?_⟩
  have hd : ¬ (F.depth.isSome = true) := fun h => hF.depth h
  have hcI : ∀ {f : FuncId} {args : Array Value} {w : World} {R : Ending → World → Prop}, CallsIn Fence.wide 0 k.p f args w R → CallsIn F 0 k.p f args w R := by
    intro f args w R h
    rcases hF with ⟨_, rfl⟩ | ⟨_, l, rfl⟩
    · exact h
    · exact h
  have hrI : ∀ {l : Nat} {f : FuncId} {t : Array Value} {x y : Code} {w : World} {R : Ending → World → Prop}, RoundIn Fence.wide 0 k.p l f t x y w R → RoundIn F 0 k.p l f t x y w R := by
    intro l f t x y w R h
    rcases hF with ⟨_, rfl⟩ | ⟨_, l, rfl⟩
    · exact h
    · exact h
  unfold evOp at hv
  cases hq : quiet k.p o.op with
  | true =>
    rw [hq, cond_true] at hv
    rw [Oper.semAt_eq _ _ _ (quiet_noDefer hq)]
    split at hv
    · rename_i v hv1
      obtain ⟨s', h1, rfl⟩ := ok1_some hv
      obtain ⟨x, hx, hx'⟩ := evQ_sound hS.ops hS.inv.rel (hS.inv.grel hg) hv1
      rw [hx]
      exact hQ .normal _ _ ⟨.normal, s', θ, List.mem_singleton.2 rfl, Th.le_refl _, rfl, put_sound h1 hS hx'⟩
    · simp at hv
  | false =>
    rw [hq, cond_false] at hv
    have sem : ∀ r, evL k s o = some r → (∀ f args, r = .dfr f args → run.rd = false) → o.semAt F.round a.eval = execOp a.eval o := by
      intro r hr hrd
      rcases hF with ⟨_, rfl⟩ | ⟨hrd1, l, rfl⟩
      · exact Oper.semAt_none _ _
      · refine Oper.semAt_eq _ _ _ fun c hc => ?_
        rw [evL_eq] at hr
        simp only [evL0, hc] at hr
        split at hr
        · split at hr
          · simp only [Option.some.injEq] at hr; subst hr
            rw [hrd _ _ rfl] at hrd1; cases hrd1
          · simp at hr
        · simp at hr
    split at hv
    · simp at hv
    · rename_i v h' hl
      obtain ⟨s', h1, rfl⟩ := ok1_some hv
      obtain ⟨θ', x, w', g1, g2, g3, g4⟩ := evL_sound hk hS.ops hS.inv hl
      rw [sem _ hl (by simp), g2]
      exact hQ .normal _ _ ⟨.normal, s', θ', List.mem_singleton.2 rfl, g1, rfl, put_sound h1 ⟨hS.tmps.le g1, hS.defs.le g1, g4⟩ g3⟩
    · rename_i l hl
      obtain ⟨v, h', hm, θ', x, w', g1, g2, g3, g4⟩ := evL_sound hk hS.ops hS.inv hl
      rw [sem _ hl (by simp), g2]
      obtain ⟨s', q1, q2⟩ := putAll_mem hv hm
      exact hQ .normal _ _ ⟨.normal, s', θ', q2, g1, rfl, put_sound q1 ⟨hS.tmps.le g1, hS.defs.le g1, g4⟩ g3⟩
    · rename_i h' hl
      obtain ⟨s', h1, rfl⟩ := ok1_some hv
      obtain ⟨w', g2, g4⟩ := evL_sound hk hS.ops hS.inv hl
      rw [sem _ hl (by simp), g2]
      exact hQ .normal _ _ ⟨.normal, s', θ, List.mem_singleton.2 rfl, Th.le_refl _, rfl, put_sound h1 ⟨hS.tmps, hS.defs, g4⟩ (conc_undef θ)⟩
    · rename_i f args h' hl
      obtain ⟨rfl, xs, g1, g2⟩ := evL_sound hk hS.ops hS.inv hl
      rw [sem _ hl (by simp), g2]
      cases he : run.f f args s.h with
      | none => simp [he, afters] at hv
      | some es =>
        refine ⟨fun h => absurd h hd, (hcI (hr.f he hg g1 hS.inv)).mono fun e w'' hE => ?_⟩
        have := afters_sound he hv hS hQ e w'' hE
        cases e <;> exact this
    · rename_i l args h' hl
      obtain ⟨rfl, L, xs, hL, g1, g2⟩ := evL_sound hk hS.ops hS.inv hl
      rw [sem _ hl (by simp), g2]
      cases he : run.y l args s.h with
      | none => simp [he, afters] at hv
      | some es =>
        obtain ⟨fn, tmps, assign, body, q1, q2⟩ := hr.y he hg hL g1 hS.inv
        rw [q1]
        refine ⟨fun h => absurd h hd, (hrI q2).mono fun e w'' hE => ?_⟩
        have := afters_sound he hv hS hQ e w'' hE
        cases e <;> exact this
    · rename_i v h' hl
      obtain ⟨rfl, x, g1, g2⟩ := evL_sound hk hS.ops hS.inv hl
      rw [sem _ hl (by simp), g2]
      simp only [Option.some.injEq] at hv; subst hv
      exact hQ (.panic _) _ _ ⟨.pan v, _, θ, List.mem_singleton.2 rfl, Th.le_refl _, ⟨x, g1, rfl⟩, hS⟩
    · rename_i f args hl
      have hrd := (bif_none hv).1
      replace hv := (bif_none hv).2
      obtain ⟨s', h1, rfl⟩ := ok1_some hv
      obtain ⟨first, cap, ys, cs, q1, q2, q3, q4⟩ := evL_sound hk hS.ops hS.inv hl
      rw [sem _ hl (fun _ _ _ => hrd), q4]
      exact hQ .normal _ _ ⟨.normal, s', θ, List.mem_singleton.2 rfl, Th.le_refl _, rfl, put_sound (a := { a with defers := _ :: a.defers }) h1 ⟨hS.tmps, ⟨⟨first, cap, ys, cs, q1, q2, q3, rfl⟩, hS.defs⟩, hS.inv⟩ (conc_undef θ)⟩
end Go.Proofs.YtnboghpebjciaaaGreatDoor.Ev

namespace Go.Proofs.YtnboghpebjciaaaGreatDoor.Ev
variable [Sym]
variable {k : K} {h h' : H} {s : S} {a : Act} {θ : Th} {w w' : World} {o : Oper} {Φ : Fr}

theorem goOn_spec {f : S → Option Outs} : ∀ {l outs : Outs}, goOn f l = some outs → ∀ x s, (x, s) ∈ l → (x = .normal → ∃ o2, f s = some o2 ∧ ∀ p ∈ o2, p ∈ outs) ∧ (x ≠ .normal → (x, s) ∈ outs)
  | [], _, _, _, _, hm => by simp at hm
  | (x', s') :: r, outs, hg, x, s, hm => by
    cases x' with
    | normal =>
      simp only [goOn] at hg
      split at hg
      · rename_i a1 ha
        split at hg
        · simp only [Option.some.injEq] at hg; subst hg
          rcases List.mem_cons.1 hm with hm | hm
          · cases hm; exact ⟨fun _ => ⟨a1, ha, fun _ h => h⟩, fun h => absurd rfl h⟩
          · simp at hm
        · split at hg
          · rename_i b hb
            simp only [Option.some.injEq] at hg; subst hg
            rcases List.mem_cons.1 hm with hm | hm
            · cases hm; exact ⟨fun _ => ⟨a1, ha, fun _ h => List.mem_append_left _ h⟩, fun h => absurd rfl h⟩
            · obtain ⟨h1, h2⟩ := goOn_spec hb x s hm
              exact ⟨fun hx => let ⟨o2, g1, g2⟩ := h1 hx; ⟨o2, g1, fun p hp => List.mem_append_right _ (g2 p hp)⟩, fun hx => List.mem_append_right _ (h2 hx)⟩
          · simp at hg
      · simp at hg
    | exit id | ret | pan v =>
      simp only [goOn] at hg
      split at hg
      · rename_i b hb
        simp only [Option.some.injEq] at hg; subst hg
        rcases List.mem_cons.1 hm with hm | hm
        · cases hm; exact ⟨nofun, fun _ => List.mem_cons_self⟩
        · obtain ⟨h1, h2⟩ := goOn_spec hb x s hm
          exact ⟨fun hx => let ⟨o2, g1, g2⟩ := h1 hx; ⟨o2, g1, fun p hp => List.mem_cons_of_mem _ (g2 p hp)⟩, fun hx => List.mem_cons_of_mem _ (h2 hx)⟩
      · simp at hg

theorem goOn_sound {f : S → Option Outs} {l outs : Outs} {next : Act → World → Prop} {Q : Exit → Act → World → Prop} (hgo : goOn f l = some outs) (hQ : ∀ e a w, OutOk Φ θ outs e a w → Q e a w)
    (hnext : ∀ {s o2 θ' a w}, f s = some o2 → SRel Φ θ' s a w → (∀ e a w, OutOk Φ θ' o2 e a w → Q e a w) → next a w) : ∀ e a w, OutOk Φ θ l e a w → Exit.then next Q e a w := by
  rintro e a w ⟨x, s, θ', hm, hle, hx, hS⟩
  obtain ⟨h1, h2⟩ := goOn_spec hgo x s hm
  cases x with
  | normal =>
    cases hx
    obtain ⟨o2, g1, g2⟩ := h1 rfl
    exact hnext g1 hS fun e a w ho => hQ e a w ((ho.sub g2).le hle)
  | exit id => cases hx; exact hQ _ _ _ ⟨_, s, θ', h2 (by simp), hle, rfl, hS⟩
  | ret => cases hx; exact hQ _ _ _ ⟨_, s, θ', h2 (by simp), hle, rfl, hS⟩
  | pan v => obtain ⟨y, hy, rfl⟩ := hx; exact hQ _ _ _ ⟨_, s, θ', h2 (by simp), hle, ⟨y, hy, rfl⟩, hS⟩

/-- One operation of a region, wanted or not. -/
theorem evStep_sound (hk : k.Ok) {run : Run} (hr : RunOk k run) {F : Fence} (hF : FOk run.rd F) (hg : GRel k.gl Φ.blk) {ops : Array Oper} {l outs : Outs} {f : S → Option Outs} (hv : evStep k run ops o s = some l) (hgo : goOn f l = some outs)
    (hS : SRel Φ θ s a w) {next : Act → World → Prop} {Q : Exit → Act → World → Prop} (hQ : ∀ e a w, OutOk Φ θ outs e a w → Q e a w)
    (hnext : ∀ {s o2 θ' a w}, θ.le θ' → f s = some o2 → SRel Φ θ' s a w → (∀ e a w, OutOk Φ θ' o2 e a w → Q e a w) → next a w) :
    if Region.wanted o (yielded ops a.tmps) then o.wpIn F 0 k.p a w next Q else (∀ f, o.about k.p w a.eval = some f → F.fn f) ∧ next (a.put o.dst undef) w := by
  have hall : ∀ e a w, OutOk Φ θ l e a w → Exit.then next Q e a w := by
    rintro e a w ⟨x, s, θ', hm, hle, hx, hS⟩
    obtain ⟨h1, h2⟩ := goOn_spec hgo x s hm
    cases x with
    | normal =>
      cases hx
      obtain ⟨o2, g1, g2⟩ := h1 rfl
      exact hnext hle g1 hS fun e a w ho => hQ e a w ((ho.sub g2).le hle)
    | exit id => cases hx; exact hQ _ _ _ ⟨_, s, θ', h2 (by simp), hle, rfl, hS⟩
    | ret => cases hx; exact hQ _ _ _ ⟨_, s, θ', h2 (by simp), hle, rfl, hS⟩
    | pan v => obtain ⟨y, hy, rfl⟩ := hx; exact hQ _ _ _ ⟨_, s, θ', h2 (by simp), hle, ⟨y, hy, rfl⟩, hS⟩
  unfold evStep at hv
  split at hv
  · simp at hv
  · rename_i hw
    rw [wanted_sound hS hw]
    obtain ⟨s', h1, rfl⟩ := ok1_some hv
    refine ⟨fun f _ => hF.fn f, ?_⟩
    exact hall .normal _ _ ⟨.normal, s', θ, List.mem_singleton.2 rfl, Th.le_refl _, rfl, put_sound h1 hS (conc_undef θ)⟩
  · rename_i hw
    rw [wanted_sound hS hw]
    exact evOp_sound hk hr hF hg hv hS hall

theorem evOps_sound (hk : k.Ok) {run : Run} (hr : RunOk k run) {F : Fence} (hF : FOk run.rd F) (hg : GRel k.gl Φ.blk) {ops : Array Oper} {Q : Exit → Act → World → Prop} : ∀ (os : List Oper) (i : Nat) {s : S} {a : Act} {w : World} {θ : Th} {outs : Outs},
    ops.toList.drop i = os → evOps k run ops os s = some outs → SRel Φ θ s a w → (∀ e a w, OutOk Φ θ outs e a w → Q e a w) → wpOpsIn F 0 k.p ops Q (List.range' i os.length) a w
  | [], i, s, a, w, θ, outs, hd, hv, hS, hQ => by
    simp only [evOps, Option.some.injEq] at hv; subst hv
    exact hQ .normal _ _ ⟨.normal, s, θ, List.mem_singleton.2 rfl, Th.le_refl _, rfl, hS⟩
  | o :: os, i, s, a, w, θ, outs, hd, hv, hS, hQ => by
    simp only [evOps] at hv
    split at hv
    · rename_i l hl
      have ho : ops[i]? = some o := by
        have := congrArg (fun l => l[0]?) hd
        simp at this
        simpa using this
      have hd' : ops.toList.drop (i + 1) = os := by
        rw [← List.drop_drop, hd]; rfl
      simp only [List.length_cons, List.range'_succ, wpOpsIn, ho]
      exact evStep_sound hk hr hF hg hl hv hS hQ fun hle h1 h2 h3 => evOps_sound hk hr hF hg os (i + 1) hd' h1 h2 h3
    · simp at hv

/-! Codes. -/
/-- What a code does is what is said of it. -/
def COk (k : K) (rd : Bool) (c : Code) (ev : S → Option Outs) : Prop := ∀ {s : S} {outs : Outs}, ev s = some outs → ∀ {F : Fence}, FOk rd F → ∀ {Φ : Fr} {θ : Th} {a : Act} {w : World} {Q : Exit → Act → World → Prop},
  GRel k.gl Φ.blk → SRel Φ θ s a w → (∀ e a w, OutOk Φ θ outs e a w → Q e a w) → c.wpIn F 0 k.p Q a w
/-- The same of a region that draws its order. -/
def DrawOk (k : K) (run : Run) : Prop := ∀ {ops : Array Oper} {id : Nat} {s : S} {outs : Outs}, run.rd = false → noSelect ops = true → evDraw k run ops ops.size (Array.replicate ops.size false) [] s = some outs → ∀ {Φ : Fr} {θ : Th} {a : Act} {w : World} {Q : Exit → Act → World → Prop},
  GRel k.gl Φ.blk → SRel Φ θ s a w → (∀ e a w, OutOk Φ θ outs e a w → Q e a w) → (Code.region id ops true).wpIn Fence.wide 0 k.p Q a w

theorem least {p : Nat → Prop} (h : ∃ n, p n) : ∃ n, p n ∧ ∀ m, p m → n ≤ m := by
  obtain ⟨n, hn⟩ := h
  induction n using Nat.strongRecOn with
  | _ n ih =>
    by_cases c : ∃ m, m < n ∧ p m
    · obtain ⟨m, h1, h2⟩ := c; exact ih m h1 h2
    · exact ⟨n, hn, fun m hm => Nat.le_of_not_lt fun hlt => c ⟨m, hlt, hm⟩⟩

/-- A loop, by its fuel. -/
theorem loop_fuel {F : Fence} {P : Program} {c : Code} {Q : Exit → Act → World → Prop} (J : Nat → Act → World → Prop) (round : ∀ n a w, J n a w → c.wpIn F 0 P (Exit.then (fun a' w' => ∃ m, m < n ∧ J m a' w') Q) a w)
    {n : Nat} {a : Act} {w : World} (h0 : J n a w) : (Code.loop c).wpIn F 0 P Q a w := by
  classical
  let μ : Act → World → Nat := fun a w => if h : ∃ n, J n a w then Classical.choose (least h) else 0
  have hμ : ∀ a w, (∃ n, J n a w) → J (μ a w) a w ∧ ∀ m, J m a w → μ a w ≤ m := fun a w h => by
    have := Classical.choose_spec (least h)
    simp only [μ, dif_pos h]; exact this
  refine wpIn_loop (fun a w => ∃ n, J n a w) μ ⟨n, h0⟩ fun a w hI => ?_
  refine wpIn_mono (round _ a w (hμ a w hI).1) fun e a' w' he => ?_
  cases e with
  | normal =>
    obtain ⟨m, hlt, hm⟩ := he
    exact ⟨⟨m, hm⟩, Nat.lt_of_le_of_lt ((hμ a' w' ⟨m, hm⟩).2 m hm) hlt⟩
  | _ => exact he

theorem mem_inBlock {id : Nat} {x : X} {s : S} {l : Outs} (h : (x, s) ∈ l) : inBlock id (x, s) ∈ l.map (inBlock id) := List.mem_map_of_mem h

theorem endLoop_spec {s : S} {l : Nat} : ∀ {es : List E} {outs : Outs}, endLoop s l es = some outs → ∀ v h, E.ret v h ∈ es →
    ∃ st pending fn e sz ps a b d, h.t.get l = some (.loop st pending fn e sz ps a b d) ∧ st ≠ .busy ∧
      ((pending = none ∧ (X.normal, { s with h := h.set l (.loop .exhausted pending fn e sz ps a b d) }) ∈ outs) ∨ (pending = some .ret ∧ (X.ret, { s with h := h.set l (.loop .exhausted pending fn e sz ps a b d) }) ∈ outs) ∨
        ∃ id, pending = some (.exit id) ∧ (X.exit id, { s with h := h.set l (.loop .exhausted pending fn e sz ps a b d) }) ∈ outs)
  | [], _, _, _, _, hm => by simp at hm
  | e :: r, outs, he, v, h, hm => by
    cases e with
    | pan v' h' => simp [endLoop] at he
    | ret v' h' =>
      simp only [endLoop] at he
      split at he
      · simp at he
      · rename_i rest hrest
        split at he
        · rename_i st pending fn e sz ps a b d hg
          have key : st ≠ .busy ∧ ((pending = none ∧ some outs = some ((X.normal, { s with h := h'.set l (.loop .exhausted pending fn e sz ps a b d) }) :: rest)) ∨
              (pending = some .ret ∧ some outs = some ((X.ret, { s with h := h'.set l (.loop .exhausted pending fn e sz ps a b d) }) :: rest)) ∨
              ∃ id, pending = some (.exit id) ∧ some outs = some ((X.exit id, { s with h := h'.set l (.loop .exhausted pending fn e sz ps a b d) }) :: rest)) := by
            split at he
            · simp at he
            · rename_i hst
              refine ⟨hst, ?_⟩
              split at he
              · exact .inl ⟨rfl, he.symm⟩
              · exact .inr (.inl ⟨rfl, he.symm⟩)
              · exact .inr (.inr ⟨_, rfl, he.symm⟩)
              · simp at he
          obtain ⟨hst, key⟩ := key
          rcases List.mem_cons.1 hm with hm | hm
          · cases hm
            refine ⟨st, pending, fn, e, sz, ps, a, b, d, hg, hst, ?_⟩
            rcases key with ⟨h1, h2⟩ | ⟨h1, h2⟩ | ⟨id, h1, h2⟩ <;> simp only [Option.some.injEq] at h2 <;> subst h2
            · exact .inl ⟨h1, List.mem_cons_self⟩
            · exact .inr (.inl ⟨h1, List.mem_cons_self⟩)
            · exact .inr (.inr ⟨id, h1, List.mem_cons_self⟩)
          · obtain ⟨st', p', fn', e', sz', ps', a', b', d', q1, q2, q3⟩ := endLoop_spec hrest v h hm
            refine ⟨st', p', fn', e', sz', ps', a', b', d', q1, q2, ?_⟩
            have hsub : ∀ p, p ∈ rest → p ∈ outs := fun p hp => by
              rcases key with ⟨h1, h2⟩ | ⟨h1, h2⟩ | ⟨id, h1, h2⟩ <;> simp only [Option.some.injEq] at h2 <;> subst h2 <;> exact List.mem_cons_of_mem _ hp
            rcases q3 with ⟨h1, h2⟩ | ⟨h1, h2⟩ | ⟨id, h1, h2⟩
            · exact .inl ⟨h1, hsub _ h2⟩
            · exact .inr (.inl ⟨h1, hsub _ h2⟩)
            · exact .inr (.inr ⟨id, h1, hsub _ h2⟩)
        · simp at he
theorem endLoop_pan {s : S} {l : Nat} : ∀ {es : List E} {outs : Outs}, endLoop s l es = some outs → ∀ v h, E.pan v h ∉ es
  | [], _, _, _, _, hm => by simp at hm
  | e :: r, outs, he, v, h, hm => by
    cases e with
    | pan v' h' => simp [endLoop] at he
    | ret v' h' =>
      simp only [endLoop] at he
      split at he
      · simp at he
      · rename_i rest hrest
        rcases List.mem_cons.1 hm with hm | hm
        · cases hm
        · exact endLoop_pan hrest v h hm

theorem rangeFunc_sound (hk : k.Ok) {run : Run} (hr : RunOk k run) {fid : FuncId} {self : Code → S → Option Outs} {g : Operand} {ps : Array Tmp} {assign body : Code} :
    COk k false (.rangeFunc g ps assign body) (evCode k false fid run self (.rangeFunc g ps assign body)) := by
  intro s outs hv F hF Φ θ a w Q hg hS hQ
  rcases hF with ⟨_, rfl⟩ | ⟨hF, _⟩
  case inr => cases hF
  simp only [evCode, cond_false] at hv
  split at hv
  · rename_i f args h1 hcv
    split at hv
    · rename_i es hes
      refine wpIn_rangeFunc fun fn _ => ?_
      let L1 : Loc := ⟨w.heap.size, 0, 0⟩
      let w1 := w.alloc (.deferred (some []))
      let L2 : Loc := ⟨w1.heap.size, 0, 0⟩
      let θ1 := θ.ins s.h.n L1
      have hle1 : θ.le θ1 := le_new hS.inv L1
      have i1 : Inv Φ θ1 (s.h.add (.dfr true)) w1 := hS.inv.add (by show w1.heap[w.heap.size]? = _; exact heap_new _ _)
      let θ2 := θ1.ins (s.h.n + 1) L2
      have hle2 : θ1.le θ2 := le_new i1 L2
      let w2 := w1.alloc (.loop { state := .ready, pending := none, fn, tmps := a.tmps, params := ps, assign, body, defers := w.heap.size })
      have hle : θ.le θ2 := Th.le_trans hle1 hle2
      have i2 : Inv Φ θ2 ((s.h.add (.dfr true)).add (.loop .ready none fid s.e s.sz ps assign body s.h.n)) w2 :=
        i1.add ⟨fn, a.tmps, w.heap.size, heap_new _ _, hS.tmps.le hle⟩
      have hsz : w1.heap.size = w.heap.size + 1 := by simp [w1]
      have hy : concL θ2 [V.fn (.yield (Nat.succ s.h.n)) [] []] = some [.func (.yield (w.heap.size + 1)) #[] #[]] := by
        have : θ2 (s.h.n + 1) = some L2 := Th.ins_self _ _ _
        simp [concL, conc, concFn, this, L2, hsz]
      obtain ⟨d, d1, d2⟩ := callV_sound hk i2 (conc_le hle _ _ (hS.ops g)) hy hcv
      obtain ⟨rfl, xs, x1, x2⟩ := d2
      refine ⟨w.heap.size + 1, [{ target := .collected w.heap.size, args := #[] }], w2, d, w2, f, ⟨xs⟩, w2, ?_, ?_, fun _ _ => trivial, x2, by simp [Fence.wide], ?_⟩
      · exact run_enterLoop_outer fn a.tmps ps assign body
      · have hm : (#[Operand.const (.func (.yield (w.heap.size + 1)) #[] #[])] : Array Operand).map a.eval = ⟨[.func (.yield (w.heap.size + 1)) #[] #[]]⟩ := by simp [Act.eval]
        simp only [resolve, hm]
        exact d1
      · refine (hr.f hes hg x1 i2).mono fun e w3 hE => ?_
        cases e with
        | returned x =>
          obtain ⟨v, h3, θ3, m1, m2, m3, m4⟩ := hE
          obtain ⟨st, pending, fn', e', sz', ps', a', b', dd, q1, q2, q3⟩ := endLoop_spec hv v h3 m1
          have hL2 : θ3 (s.h.n + 1) = some L2 := m2 _ _ (Th.ins_self _ _ _)
          have hL1 : θ3 s.h.n = some L1 := m2 _ _ (hle2 _ _ (Th.ins_self _ _ _))
          obtain ⟨L', hL', fn2, tm, Ld, g1, g2⟩ := m4.rel _ _ q1
          have hL'' : θ3 (s.h.n + 1) = some L' := hL'
          rw [hL2] at hL''; cases hL''
          have hb2 : L2.blk = w.heap.size + 1 := hsz
          have g1' := g1
          rw [hb2] at g1'
          have hend := run_endLoop (P := k.p) g1' q2
          refine ⟨_, _, hend, ?_⟩
          have i4 : Inv Φ θ3 (h3.set (s.h.n + 1) (.loop .exhausted pending fn' e' sz' ps' a' b' dd)) (w3.putObj (w.heap.size + 1) (.loop { state := .exhausted, pending, fn := fn2, tmps := tm, params := ps', assign := a', body := b', defers := Ld })) := by
            have := m4.put (y := .loop { state := .exhausted, pending, fn := fn2, tmps := tm, params := ps', assign := a', body := b', defers := Ld }) q1 hL2 (o' := .loop .exhausted pending fn' e' sz' ps' a' b' dd) fun hh => ⟨fn2, tm, Ld, hh, g2⟩
            rw [hb2] at this; exact this
          have hS4 : SRel Φ θ3 { { s with d := .coll s.h.n :: s.d } with h := h3.set (s.h.n + 1) (.loop .exhausted pending fn' e' sz' ps' a' b' dd) } { a with defers := [{ target := .collected w.heap.size, args := #[] }] ++ a.defers }
              (w3.putObj (w.heap.size + 1) (.loop { state := .exhausted, pending, fn := fn2, tmps := tm, params := ps', assign := a', body := b', defers := Ld })) :=
            ⟨hS.tmps.le (Th.le_trans hle m2), ⟨⟨L1, hL1, rfl⟩, hS.defs.le (Th.le_trans hle m2)⟩, i4⟩
          have hle3 : θ.le θ3 := Th.le_trans hle m2
          rcases q3 with ⟨rfl, hm⟩ | ⟨rfl, hm⟩ | ⟨id, rfl, hm⟩
          · exact hQ _ _ _ ⟨.normal, _, θ3, hm, hle3, rfl, hS4⟩
          · exact wpIn_ret (hQ _ _ _ ⟨.ret, _, θ3, hm, hle3, rfl, hS4⟩)
          · exact wpIn_exit (hQ _ _ _ ⟨.exit id, _, θ3, hm, hle3, rfl, hS4⟩)
        | panicked chain =>
          obtain ⟨v, h3, θ3, x, m1, _⟩ := hE
          exact absurd m1 (endLoop_pan hv v h3)
        | outgrown => exact hE.elim
    · simp at hv
  · simp at hv
end Go.Proofs.YtnboghpebjciaaaGreatDoor.Ev

namespace Go.Proofs.YtnboghpebjciaaaGreatDoor.Ev
variable [Sym]
variable {k : K} {h h' : H} {s : S} {a : Act} {θ : Th} {w w' : World} {o : Oper} {Φ : Fr}

theorem inBlock_sound {id : Nat} {l : Outs} {Q : Exit → Act → World → Prop} (hQ : ∀ e a w, OutOk Φ θ (l.map (inBlock id)) e a w → Q e a w) : ∀ e a w, OutOk Φ θ l e a w → Exit.inBlock id Q e a w := by
  rintro e a w ⟨x, s, θ', hm, hle, hx, hS⟩
  have hm' := mem_inBlock (id := id) hm
  cases x with
  | normal => cases hx; exact hQ _ _ _ ⟨.normal, s, θ', hm', hle, rfl, hS⟩
  | ret => cases hx; exact hQ _ _ _ ⟨.ret, s, θ', hm', hle, rfl, hS⟩
  | pan v => obtain ⟨y, hy, rfl⟩ := hx; exact hQ _ _ _ ⟨.pan v, s, θ', hm', hle, ⟨y, hy, rfl⟩, hS⟩
  | exit i =>
    cases hx
    simp only [Exit.inBlock]
    simp only [inBlock] at hm'
    cases hi : Nat.beq i id with
    | true =>
      rw [if_pos (Nat.eq_of_beq_eq_true hi)]
      simp only [hi, cond_true] at hm'
      exact hQ _ _ _ ⟨.normal, s, θ', hm', hle, rfl, hS⟩
    | false =>
      rw [if_neg (fun hc => by subst hc; simp at hi)]
      simp only [hi, cond_false] at hm'
      exact hQ _ _ _ ⟨.exit i, s, θ', hm', hle, rfl, hS⟩

theorem one_out {Q : Exit → Act → World → Prop} {x : X} (hQ : ∀ e a w, OutOk Φ θ [(x, s)] e a w → Q e a w) (hS : SRel Φ θ s a w) {e : Exit} (hx : XOk θ x e) : Q e a w :=
  hQ _ _ _ ⟨x, s, θ, List.mem_singleton.2 rfl, Th.le_refl _, hx, hS⟩

/-- A loop's rounds, by the fuel. -/
theorem loop_sound {rd : Bool} {fid : FuncId} {c : Code} (N : Nat) (hc : ∀ n, n ≤ N → COk k rd c (code k n rd fid c)) : COk k rd (.loop c) (code k N rd fid (.loop c)) := by
  intro s outs hv F hF Φ θ a w Q hg hS hQ
  refine loop_fuel (fun n a w => n ≤ N ∧ ∃ s θ' outs, code k n rd fid (.loop c) s = some outs ∧ SRel Φ θ' s a w ∧ ∀ e a w, OutOk Φ θ' outs e a w → Q e a w) ?_ ⟨Nat.le_refl N, s, θ, outs, hv, hS, hQ⟩
  rintro n a w ⟨hn, s, θ', outs, hv, hS, hQ⟩
  cases n with
  | zero => simp [code] at hv
  | succ n =>
    have h1 : code k (n + 1) rd fid (.loop c) s = match code k (n + 1) rd fid c s with
      | some l => goOn (code k n rd fid (.loop c)) l
      | none => none := rfl
    rw [h1] at hv
    split at hv
    · rename_i l hl
      refine hc (n + 1) hn hl hF hg hS (goOn_sound hv hQ fun g1 g2 g3 => ⟨n, Nat.lt_succ_self n, Nat.le_of_succ_le hn, _, _, _, g1, g2, g3⟩)
    · simp at hv

/-- All codes, at a fuel, from all lesser ones. -/
theorem code_step (hk : k.Ok) (HD : ∀ run, RunOk k run → DrawOk k run) {n : Nat} {rd : Bool} {fid : FuncId} (hrun : RunOk k ⟨callO k (code k n), callY (code k n), rd⟩) (ih : ∀ m, m ≤ n → ∀ c, COk k rd c (code k m rd fid c)) :
    ∀ c, COk k rd c (code k (n + 1) rd fid c) := by
  intro c
  induction c with
  | skip =>
    intro s outs hv F hF Φ θ a w Q hg hS hQ
    simp only [code, evCode, Option.some.injEq] at hv; subst hv
    exact wpIn_skip (one_out hQ hS rfl)
  | region id ops d =>
    intro s outs hv F hF Φ θ a w Q hg hS hQ
    cases d with
    | false =>
      simp only [code, evCode, cond_false] at hv
      refine wpIn_region ?_
      have := evOps_sound hk hrun hF hg (ops := ops) (Q := Q) ops.toList 0 rfl hv hS hQ
      rw [List.range_eq_range']
      simpa using this
    | true =>
      simp only [code, evCode, cond_true] at hv
      have hb := (bif_none hv).1
      replace hv := (bif_none hv).2
      simp only [Bool.or_eq_false_iff, Bool.not_eq_false'] at hb
      rcases hF with ⟨_, rfl⟩ | ⟨hrd, _⟩
      · exact HD _ hrun hb.1 hb.2 hv hg hS hQ
      · rw [hb.1] at hrd; cases hrd
  | seq x y ihx ihy =>
    intro s outs hv F hF Φ θ a w Q hg hS hQ
    simp only [code, evCode] at hv
    split at hv
    · rename_i l hl
      exact wpIn_seq (ihx hl hF hg hS (goOn_sound hv hQ fun g1 g2 g3 => ihy g1 hF hg g2 g3))
    · simp at hv
  | cond c x y ihx ihy =>
    intro s outs hv F hF Φ θ a w Q hg hS hQ
    simp only [code, evCode] at hv
    split at hv
    · rename_i t ht
      have hc := conc_bool (ht ▸ hS.ops c)
      refine wpIn_cond hc ?_
      cases t with
      | true => exact ihx hv hF hg hS hQ
      | false => exact ihy hv hF hg hS hQ
    · simp at hv
  | block id c ih =>
    intro s outs hv F hF Φ θ a w Q hg hS hQ
    simp only [code, evCode] at hv
    split at hv
    · rename_i l hl
      simp only [Option.some.injEq] at hv; subst hv
      exact wpIn_block (ih hl hF hg hS (inBlock_sound hQ))
    · simp at hv
  | loop c ihc =>
    refine loop_sound (n + 1) fun m hm => ?_
    rcases Nat.lt_or_eq_of_le hm with hlt | rfl
    · exact ih m (Nat.le_of_lt_succ hlt) c
    · exact ihc
  | rangeFunc g ps assign body =>
    cases rd with
    | true =>
      intro s outs hv
      simp [code, evCode] at hv
    | false => exact rangeFunc_sound hk hrun (fid := fid) (self := code k n false fid)
  | exit id =>
    intro s outs hv F hF Φ θ a w Q hg hS hQ
    simp only [code, evCode, Option.some.injEq] at hv; subst hv
    exact wpIn_exit (one_out hQ hS rfl)
  | ret =>
    intro s outs hv F hF Φ θ a w Q hg hS hQ
    simp only [code, evCode, Option.some.injEq] at hv; subst hv
    exact wpIn_ret (one_out hQ hS rfl)
  | label l =>
    intro s outs hv F hF Φ θ a w Q hg hS hQ
    simp only [code, evCode, Option.some.injEq] at hv; subst hv
    exact wpIn_label (one_out hQ hS rfl)
  | _ =>
    intro s outs hv
    simp [code, evCode] at hv
end Go.Proofs.YtnboghpebjciaaaGreatDoor.Ev

namespace Go.Proofs.YtnboghpebjciaaaGreatDoor.Ev
variable [Sym]
variable {k : K} {h h' : H} {s : S} {a : Act} {θ : Th} {w w' : World} {o : Oper} {Φ : Fr}

/-! A call's ends. -/
theorem ends_spec {fd : Func} : ∀ {l : Outs} {es : List E}, ends k fd l = some es → ∀ x s, (x, s) ∈ l →
    (∀ id, x ≠ .exit id) ∧ (∀ v, x = .pan v → s.d = [] ∧ E.pan v s.h ∈ es) ∧
    ((x = .normal ∨ x = .ret) → ∃ h vs, leave s.d s.h = some h ∧ resultsV k { s with h := h } fd.results.toList = some vs ∧ E.ret (retV vs) h ∈ es)
  | [], _, _, x, s, hm => by simp at hm
  | (x', s') :: r, es, he, x, s, hm => by
    simp only [ends] at he
    split at he
    · simp at he
    · rename_i rest hrest
      have hmem : (x, s) ∈ r → (∀ p, p ∈ rest → p ∈ es) → _ := fun h1 hsub => by
        obtain ⟨g1, g2, g3⟩ := ends_spec hrest x s h1
        exact (⟨g1, fun v hv => ⟨(g2 v hv).1, hsub _ (g2 v hv).2⟩, fun hx => let ⟨h, vs, q1, q2, q3⟩ := g3 hx; ⟨h, vs, q1, q2, hsub _ q3⟩⟩ :
          (∀ id, x ≠ .exit id) ∧ (∀ v, x = .pan v → s.d = [] ∧ E.pan v s.h ∈ es) ∧
            ((x = .normal ∨ x = .ret) → ∃ h vs, leave s.d s.h = some h ∧ resultsV k { s with h := h } fd.results.toList = some vs ∧ E.ret (retV vs) h ∈ es))
      cases x' with
      | exit id => simp at he
      | pan v =>
        simp only at he
        split at he
        · rename_i hd
          simp only [Option.some.injEq] at he; subst he
          rcases List.mem_cons.1 hm with hm | hm
          · cases hm
            exact ⟨nofun, fun v' hv => by cases hv; exact ⟨hd, List.mem_cons_self⟩, fun hx => by rcases hx with hx | hx <;> cases hx⟩
          · exact hmem hm fun p hp => List.mem_cons_of_mem _ hp
        · simp at he
      | normal | ret =>
        simp only at he
        split at he
        · rename_i h hl
          split at he
          · rename_i vs hvs
            simp only [Option.some.injEq] at he; subst he
            rcases List.mem_cons.1 hm with hm | hm
            · cases hm
              exact ⟨nofun, nofun, fun _ => ⟨h, vs, hl, hvs, List.mem_cons_self⟩⟩
            · exact hmem hm fun p hp => List.mem_cons_of_mem _ hp
          · simp at he
        · simp at he

theorem loadAt_addr {t : TypeId} {v u : V} {y : Value} (hy : conc θ u = some y) (hl : loadAt k t h u = some v) : ∃ ad, y = .pointer (some ad) := by
  unfold loadAt at hl
  split at hl
  · obtain ⟨L, _, rfl⟩ := conc_ptr hy; exact ⟨_, rfl⟩
  · exact ⟨_, conc_gp hy⟩
  · simp at hl
/-- What one result variable holds. -/
def resOne (tmps : Array Value) : ResultVar → Sem Value
  | .tmp t => pure (tmps.getD t undef)
  | .cell c t => do loadVar t (← asAddr (tmps.getD c undef))
theorem results_list (hg : GRel k.gl fun i => w.heap[i]?) (hS : SRel Φ θ s a w) : ∀ (rs : List ResultVar) (vs : List V), resultsV k s rs = some vs →
    ∃ xs, concL θ vs = some xs ∧ (rs.mapM (resOne a.tmps)).run k.p w = .ok xs w
  | [], vs, h => by
    simp only [resultsV, Option.some.injEq] at h; subst h
    exact ⟨[], concL_nil θ, rfl⟩
  | r :: rs, vs, h => by
    cases r with
    | tmp t =>
      simp only [resultsV] at h
      split at h
      · rename_i vs' hvs
        simp only [Option.some.injEq] at h; subst h
        obtain ⟨xs, h1, h2⟩ := results_list hg hS rs vs' hvs
        have ht : conc θ (evT s.e t) = some (a.tmps.getD t undef) := eval_conc hS.tmps (.tmp t)
        refine ⟨_, concL_cons.2 ⟨_, _, ht, h1, rfl⟩, ?_⟩
        simp only [List.mapM_cons, resOne, Sem.run_bind, Sem.run_pure, Result.andThen_ok, h2]
      · simp at h
    | cell c t =>
      simp only [resultsV] at h
      split at h
      · rename_i v hv
        split at h
        · rename_i vs' hvs
          simp only [Option.some.injEq] at h; subst h
          obtain ⟨xs, h1, h2⟩ := results_list hg hS rs vs' hvs
          have ht : conc θ (evT s.e c) = some (a.tmps.getD c undef) := eval_conc hS.tmps (.tmp c)
          obtain ⟨x, hx, hx'⟩ := loadAt_sound hS.inv.rel hg ht hv
          obtain ⟨ad, had⟩ := loadAt_addr ht hv
          rw [had] at hx
          refine ⟨_, concL_cons.2 ⟨_, _, hx', h1, rfl⟩, ?_⟩
          have hx2 : (loadVar t ad).run k.p w = .ok x w := by simpa [Instr.loadAt, Instr.sureAddr] using hx
          simp only [List.mapM_cons, resOne, Sem.run_bind, had, asAddr, Sem.run_pure, Result.andThen_ok, hx2, h2]
        · simp at h
      · simp at h
theorem results_sound {fn : Func} {vs : List V} (hg : GRel k.gl fun i => w.heap[i]?) (hS : SRel Φ θ s a w) (h : resultsV k s fn.results.toList = some vs) :
    ∃ x, conc θ (retV vs) = some x ∧ (results fn a.tmps).run k.p w = .ok x w := by
  obtain ⟨xs, h1, h2⟩ := results_list hg hS _ _ h
  have hfun : (fun
      | .tmp t => pure (a.tmps.getD t undef)
      | .cell c t => do loadVar t (← asAddr (a.tmps.getD c undef)) : ResultVar → Sem Value) = resOne a.tmps := by
    funext r; cases r <;> rfl
  have hm : (fn.results.mapM (resOne a.tmps)).run k.p w = .ok ⟨xs⟩ w := by
    rw [Array.mapM_eq_mapM_toList]
    simp only [Sem.run_map, h2, Result.andThen_ok]
  refine ⟨if h : (⟨xs⟩ : Array Value).size = 1 then (⟨xs⟩ : Array Value)[0] else .tuple ⟨xs⟩, ?_, ?_⟩
  · have hl := concL_length h1
    match vs, xs, h1, hl with
    | [v], [x], h1, _ =>
      obtain ⟨y, ys, g1, g2, g3⟩ := concL_cons.1 h1
      simp only [List.cons.injEq] at g3
      simp [retV, g1, g3.1]
    | [], [], h1, _ => simp [retV, conc, concL]
    | v :: v' :: vs, x :: x' :: xs, h1, _ => simp [retV, conc, h1]
  · simp only [results, Sem.run_bind]
    rw [show (Array.mapM _ fn.results : Sem (Array Value)) = fn.results.mapM (resOne a.tmps) from by congr 1]
    rw [hm]
    simp only [Result.andThen_ok, Sem.run_pure]

theorem leave_sound {fn : Func} {tmps : Array Value} {R : Ending → World → Prop} : ∀ {ds : List D} {es : List Deferred} {h h' : H} {w : World}, leave ds h = some h' → DOk θ ds es → Inv Φ θ h w →
    (∀ w', Inv Φ θ h' w' → LeavesInM Fence.wide 0 k.p fn tmps R [] .returning w') → LeavesInM Fence.wide 0 k.p fn tmps R es .returning w
  | [], [], h, h', w, hl, hd, hi, hR => by
    simp only [leave, Option.some.injEq] at hl; subst hl
    exact hR w hi
  | [], _ :: _, _, _, _, _, hd, _, _ => hd.elim
  | .coll b :: ds, [], _, _, _, _, hd, _, _ => hd.elim
  | .fn _ _ :: ds, es, h, h', w, hl, hd, hi, hR => by simp [leave] at hl
  | .coll b :: ds, d :: es, h, h', w, hl, hd, hi, hR => by
    obtain ⟨⟨L, hL, ht⟩, hd⟩ := hd
    simp only [leave] at hl
    split at hl
    · rename_i hg
      obtain ⟨L', hL', h1⟩ := hi.rel b _ hg
      rw [hL] at hL'; cases hL'
      have h1 : w.heap[L.blk]? = some (.deferred (some [])) := by simpa [OkO] using h1
      refine ⟨by simp, .inl ⟨L.blk, w.putObj L.blk (.deferred none), ht, run_takeDeferred h1, leave_sound hl hd (hi.put hg hL fun hh => by simpa [OkO] using hh) hR⟩⟩
    · simp at hl

theorem fillEnv_get : ∀ (vs : List V) (e : Tr V) (i t : Nat), (fillEnv e i vs).get t = if i ≤ t ∧ t < i + vs.length then vs[t - i]? else e.get t
  | [], e, i, t => by simp [fillEnv]; omega
  | v :: vs, e, i, t => by
    simp only [fillEnv, fillEnv_get vs, Nat.succ_eq_add_one, Tr.get_set, List.length_cons]
    by_cases h1 : t = i
    · subst h1
      rw [if_neg (by omega), if_pos (by omega)]
      simp
    · by_cases h2 : i + 1 ≤ t ∧ t < i + 1 + vs.length
      · rw [if_pos h2, if_pos (by omega)]
        obtain ⟨m, rfl⟩ : ∃ m, t = i + 1 + m := ⟨t - (i + 1), by omega⟩
        rw [show i + 1 + m - (i + 1) = m from by omega, show i + 1 + m - i = m + 1 from by omega]; simp
      · rw [if_neg h2, if_neg h1, if_neg (by omega)]
theorem fill_ok {args : List V} {xs : List Value} (ha : concL θ args = some xs) (m : Nat) :
    OkTmps θ (fillEnv .lf 0 args) (args.length + m) ((⟨xs⟩ : Array Value) ++ Array.replicate m undef) := by
  have hl := concL_length ha
  refine ⟨by simp [hl], fun t ht => ?_, fun t ht => ?_⟩
  · simp only [evT, fillEnv_get, Nat.zero_add, Nat.sub_zero]
    rw [Array.getD_eq_getD_getElem?]
    by_cases h1 : t < args.length
    · rw [if_pos ⟨Nat.zero_le _, h1⟩, Array.getElem?_append_left (by simpa [hl] using h1)]
      obtain ⟨x, hx, hx'⟩ := concL_get ha (List.getElem?_eq_getElem h1)
      rw [List.getElem?_eq_getElem h1]
      have : (⟨xs⟩ : Array Value)[t]? = some x := by simpa using hx'
      rw [this]; exact hx
    · rw [if_neg (by omega), Array.getElem?_append_right (by simp [hl]; omega)]
      rw [show (Tr.lf : Tr V).get t = none from Tr.get_lf t]
      simp only [conc_undef]
      rw [Array.getElem?_replicate]
      split <;> rfl
  · rw [fillEnv_get, if_neg (by omega)]; exact Tr.get_lf t

/-! Ways that are made one. -/
theorem beqOV_eq : ∀ {a b : Option V}, beqOV a b = true → a = b
  | none, none, _ => rfl
  | some a, some b, h => by rw [beq_eq a b h]
  | none, some _, h => by simp [beqOV] at h
  | some _, none, h => by simp [beqOV] at h
theorem beqB_eq : ∀ {a b : Bt V}, beqB a b = true → a = b
  | .lf, .lf, _ => rfl
  | .nd l v r, .nd m u q, h => by
    simp only [beqB, Bool.and_eq_true] at h
    rw [beqB_eq h.1.1, beqOV_eq h.1.2, beqB_eq h.2]
  | .lf, .nd _ _ _, h => by simp [beqB] at h
  | .nd _ _ _, .lf, h => by simp [beqB] at h
theorem N8.beq_eq {α : Type} {f : α → α → Bool} (hf : ∀ {x y}, f x y = true → x = y) {m n : N8 α} (h : N8.beq f m n = true) : m = n := by
  simp only [N8.beq, Bool.and_eq_true] at h
  obtain ⟨⟨⟨⟨⟨⟨⟨h1, h2⟩, h3⟩, h4⟩, h5⟩, h6⟩, h7⟩, h8⟩ := h
  cases m; cases n
  simp only [N8.mk.injEq]
  exact ⟨hf h1, hf h2, hf h3, hf h4, hf h5, hf h6, hf h7, hf h8⟩
theorem beqT_eq {a b : Tr V} (h : beqT a b = true) : a = b := by
  simp only [beqT, Bool.and_eq_true] at h
  cases a; cases b
  simp only [Tr.mk.injEq]
  exact ⟨N8.beq_eq (fun h => N8.beq_eq (fun h => N8.beq_eq (fun h => beqOV_eq h) h) h) h.1, beqB_eq h.2⟩
theorem beqC_eq {a b : C} (h : beqC a b = true) : a = b := by
  cases a <;> cases b <;> simp only [beqC, Bool.and_eq_true] at h
  · rw [beqL_eq _ _ h]
  · cases h
  · cases h
  · rw [beqL_eq _ _ h.1, beqT_eq h.2]
theorem beqO_eq {a b : O} (h : beqO a b = true) : a = b := by
  unfold beqO at h
  split at h
  · simp only [Bool.and_eq_true] at h
    rw [Nat.eq_of_beq_eq_true h.1.1, Nat.eq_of_beq_eq_true h.1.2, beqC_eq h.2]
  · simp only [Bool.and_eq_true] at h
    rw [Nat.eq_of_beq_eq_true h.1, beqE_eq _ _ h.2]
  · cases h
theorem common_get {t : Tr O} {r : List E} : ∀ {n b : Nat} {o : O}, (common t r n).get b = some o → t.get b = some o ∧ r.all (hasO b o) = true
  | 0, b, o, h => by simp [common] at h
  | n + 1, b, o, h => by
    simp only [common] at h
    split at h
    · rename_i o' ho'
      cases hb : r.all (hasO n o') with
      | true =>
        rw [hb, cond_true, Tr.get_set] at h
        by_cases hbn : b = n
        · subst hbn
          rw [if_pos rfl] at h; cases h
          exact ⟨ho', hb⟩
        · rw [if_neg hbn] at h; exact common_get h
      | false =>
        rw [hb, cond_false] at h
        exact common_get h
    · exact common_get h
theorem maxN_le : ∀ {r : List E} {n : Nat}, n ≤ maxN n r ∧ ∀ v h, E.ret v h ∈ r → h.n ≤ maxN n r
  | [], n => ⟨Nat.le_refl _, fun _ _ h => by simp at h⟩
  | e :: r, n => by
    cases e with
    | pan v h =>
      obtain ⟨h1, h2⟩ := maxN_le (r := r) (n := n)
      refine ⟨h1, fun v' h' hm => ?_⟩
      rcases List.mem_cons.1 hm with hm | hm
      · cases hm
      · exact h2 v' h' hm
    | ret v h =>
      simp only [maxN]
      have key : n ≤ (bif Nat.ble n h.n then h.n else n) ∧ h.n ≤ (bif Nat.ble n h.n then h.n else n) := by
        cases hb : Nat.ble n h.n with
        | true => exact ⟨Nat.le_of_ble_eq_true hb, Nat.le_refl _⟩
        | false => exact ⟨Nat.le_refl _, Nat.le_of_lt (Nat.lt_of_not_le fun hle => by have hle : n ≤ h.n := hle; rw [Nat.ble_eq_true_of_le hle] at hb; cases hb)⟩
      obtain ⟨h1, h2⟩ := maxN_le (r := r) (n := bif Nat.ble n h.n then h.n else n)
      refine ⟨Nat.le_trans key.1 h1, fun v' h' hm => ?_⟩
      rcases List.mem_cons.1 hm with hm | hm
      · cases hm; exact Nat.le_trans key.2 h1
      · exact h2 v' h' hm
theorem merge_sound {es es' : List E} (hm : merge es = some es') {e : Ending} (he : EOk Φ θ es e w) : EOk Φ θ es' e w := by
  unfold merge at hm
  split at hm
  · simp only [Option.some.injEq] at hm; subst hm; exact he
  · rename_i e0 r
    split at hm
    · simp only [Option.some.injEq] at hm; subst hm; exact he
    · rename_i hne
      split at hm
      · rename_i v h
        have hb := (bif_some hm).1
        replace hm := (bif_some hm).2
        simp only [Option.some.injEq] at hm; subst hm
        have hsame : ∀ x ∈ r, sameRet v x = true := List.all_eq_true.1 hb
        cases e with
        | returned x =>
          obtain ⟨v', h', θ', m1, m2, m3, m4⟩ := he
          refine ⟨v, _, θ', List.mem_singleton.2 rfl, m2, ?_, m4.sub (fun b o hg => ?_) ?_⟩
          · rcases List.mem_cons.1 m1 with m1 | m1
            · cases m1; exact m3
            · have := hsame _ m1
              simp only [sameRet] at this
              rw [beq_eq _ _ this]; exact m3
          · obtain ⟨g1, g2⟩ := common_get hg
            rcases List.mem_cons.1 m1 with m1 | m1
            · cases m1; exact g1
            · have := List.all_eq_true.1 g2 _ m1
              simp only [hasO] at this
              split at this
              · rename_i q hq
                rw [beqO_eq this]; exact hq
              · cases this
          · rcases List.mem_cons.1 m1 with m1 | m1
            · cases m1; exact maxN_le.1
            · exact maxN_le.2 _ _ m1
        | panicked chain =>
          obtain ⟨v', h', θ', x, m1, _⟩ := he
          rcases List.mem_cons.1 m1 with m1 | m1
          · cases m1
          · have := hsame _ m1
            simp [sameRet] at this
        | outgrown => exact he.elim
      · simp at hm

theorem callF_sound (hk : k.Ok) {code : Bool → FuncId → Code → S → Option Outs} (hc : ∀ fid c, COk k false c (code false fid c)) {f : FuncId} {args : List V} {es : List E} (hv : callF k code f args h = some es)
    {xs : List Value} (hg : GRel k.gl Φ.blk) (ha : concL θ args = some xs) (hi : Inv Φ θ h w) : CallsIn Fence.wide 0 k.p f ⟨xs⟩ w (EOk Φ θ es) := by
  unfold callF at hv
  split at hv
  · simp at hv
  · rename_i fd hfd
    split at hv
    · simp at hv
    · rename_i c hcb
      split at hv
      · simp at hv
      · rename_i l hl
        split at hv
        · simp at hv
        · rename_i es0 hes
          have key : CallsIn Fence.wide 0 k.p f ⟨xs⟩ w (EOk Φ θ es0) := by
            refine callsIn_of_wp_marks hfd hcb trivial ?_
            have hsz : (⟨xs⟩ : Array Value).size = args.length := by simpa using concL_length ha
            refine hc f c hl (.inl ⟨rfl, rfl⟩) hg (θ := θ) ⟨?_, trivial, hi⟩ ?_
            · have := fill_ok ha (fd.ntmps - args.length)
              rw [hsz]; exact this
            · rintro e a w' ⟨x, s, θ', hm, hle, hx, hS⟩
              obtain ⟨g1, g2, g3⟩ := ends_spec hes x s hm
              have fin : (x = .normal ∨ x = .ret) → LeavesInM Fence.wide 0 k.p fd a.tmps (EOk Φ θ es0) a.defers .returning w' := fun hx => by
                obtain ⟨h1, vs, q1, q2, q3⟩ := g3 hx
                refine leave_sound q1 hS.defs hS.inv fun w'' hi'' => ?_
                have hS'' : SRel Φ θ' { s with h := h1, d := [] } { a with defers := [] } w'' := ⟨hS.tmps, trivial, hi''⟩
                obtain ⟨y, y1, y2⟩ := results_sound (s := { s with h := h1, d := [] }) (a := { a with defers := [] }) (fn := fd) (vs := vs) (hi''.grel hg) hS'' (by
                  have : resultsV k { s with h := h1, d := [] } fd.results.toList = resultsV k { s with h := h1 } fd.results.toList := by
                    generalize fd.results.toList = rs
                    induction rs with
                    | nil => rfl
                    | cons r rs ih => cases r <;> simp only [resultsV, ih]
                  rw [this]; exact q2)
                exact ⟨y, y2, _, _, θ', q3, hle, y1, hi''⟩
              cases x with
              | normal => cases hx; exact fin (.inl rfl)
              | ret => cases hx; exact fin (.inr rfl)
              | exit id => exact absurd rfl (g1 id)
              | pan v =>
                obtain ⟨y, hy, rfl⟩ := hx
                obtain ⟨hd, hmem⟩ := g2 v rfl
                have hdef : a.defers = [] := by
                  have := hS.defs
                  rw [hd] at this
                  cases hde : a.defers with
                  | nil => rfl
                  | cons d ds => rw [hde] at this; exact this.elim
                simp only [bodyPostM, hdef]
                exact ⟨v, _, θ', y, hmem, hle, hy, rfl, hS.inv⟩
          cases hmg : k.mg f with
          | true =>
            rw [hmg, cond_true] at hv
            exact key.mono fun e w' he => merge_sound hv he
          | false =>
            rw [hmg, cond_false] at hv
            simp only [Option.some.injEq] at hv; subst hv
            exact key
/-- What is known of a call ahead of its run holds. -/
def OrcOne (k : K) (f : FuncId) (args : List V) (h : H) (es : List E) : Prop :=
  ∀ {Φ : Fr} {θ : Th} {w : World} {xs : List Value}, GRel k.gl Φ.blk → concL θ args = some xs → Inv Φ θ h w → CallsIn Fence.wide 0 k.p f ⟨xs⟩ w (EOk Φ θ es)
def OrcOk (k : K) : Prop := ∀ {f : FuncId} {args : List V} {h : H} {es : List E}, k.orc f args h = some es → OrcOne k f args h es

theorem callO_sound (hk : k.Ok) (ho : OrcOk k) {code : Bool → FuncId → Code → S → Option Outs} (hc : ∀ fid c, COk k false c (code false fid c)) {f : FuncId} {args : List V} {es : List E} (hv : callO k code f args h = some es)
    {xs : List Value} (hg : GRel k.gl Φ.blk) (ha : concL θ args = some xs) (hi : Inv Φ θ h w) : CallsIn Fence.wide 0 k.p f ⟨xs⟩ w (EOk Φ θ es) := by
  unfold callO at hv
  split at hv
  · rename_i es' he
    cases hv
    exact ho he hg ha hi
  · exact callF_sound hk hc hv hg ha hi
end Go.Proofs.YtnboghpebjciaaaGreatDoor.Ev

namespace Go.Proofs.YtnboghpebjciaaaGreatDoor.Ev
variable [Sym]
variable {k : K} {h h' : H} {s : S} {a : Act} {θ : Th} {w w' : World} {o : Oper} {Φ : Fr}

theorem setParams_sound : ∀ {ps : List Nat} {args : List V} {xs : List Value} {e e' : Tr V} {sz : Nat} {tmps : Array Value}, setParams e sz ps args = some e' → concL θ args = some xs → OkTmps θ e sz tmps →
    xs.length = ps.length ∧ OkTmps θ e' sz ((ps.zip xs).foldl (fun (tmps : Array Value) (p : Nat × Value) => tmps.setIfInBounds p.1 p.2) tmps)
  | [], [], xs, e, e', sz, tmps, h, ha, ht => by
    simp only [setParams, Option.some.injEq] at h; subst h
    rw [concL_nil] at ha; cases ha
    exact ⟨rfl, ht⟩
  | t :: ts, v :: vs, xs, e, e', sz, tmps, h, ha, ht => by
    obtain ⟨y, ys, h1, h2, rfl⟩ := concL_cons.1 ha
    simp only [setParams] at h
    have hb := (bif_some h).1
    replace h := (bif_some h).2
    obtain ⟨g1, g2⟩ := setParams_sound h h2 (ht.set (Nat.lt_of_succ_le (Nat.le_of_ble_eq_true hb)) h1)
    exact ⟨by simp [g1], by simpa using g2⟩
  | [], _ :: _, _, _, _, _, _, h, _, _ => by simp [setParams] at h
  | _ :: _, [], _, _, _, _, _, h, _, _ => by simp [setParams] at h

theorem endRound_spec {l : Nat} : ∀ {o : Outs} {es : List E}, endRound l o = some es → ∀ x s, (x, s) ∈ o →
    s.d = [] ∧ ∃ st p fn e sz ps a b d, s.h.t.get l = some (.loop st p fn e sz ps a b d) ∧
      ((x = .normal ∧ E.ret (.bool true) (s.h.set l (.loop .ready none fn e sz ps a b d)) ∈ es) ∨
        (x = .ret ∧ E.ret (.bool false) (s.h.set l (.loop .done (some .ret) fn e sz ps a b d)) ∈ es) ∨
        ∃ id, x = .exit id ∧ E.ret (.bool false) (s.h.set l (.loop .done (some (.exit id)) fn e sz ps a b d)) ∈ es)
  | [], _, _, _, _, hm => by simp at hm
  | (x', s') :: r, es, he, x, s, hm => by
    simp only [endRound] at he
    split at he
    · simp at he
    · rename_i rest hrest
      split at he
      · simp at he
      · rename_i hd
        split at he
        · rename_i st p fn e sz ps a b d hg
          have key : ((x' = .normal ∧ es = .ret (.bool true) (s'.h.set l (.loop .ready none fn e sz ps a b d)) :: rest) ∨
              (x' = .ret ∧ es = .ret (.bool false) (s'.h.set l (.loop .done (some .ret) fn e sz ps a b d)) :: rest) ∨
              ∃ id, x' = .exit id ∧ es = .ret (.bool false) (s'.h.set l (.loop .done (some (.exit id)) fn e sz ps a b d)) :: rest) := by
            cases x' with
            | normal => simp only [jumpOf, Option.some.injEq] at he; exact .inl ⟨rfl, he.symm⟩
            | ret => simp only [jumpOf, Option.some.injEq] at he; exact .inr (.inl ⟨rfl, he.symm⟩)
            | exit id => simp only [jumpOf, Option.some.injEq] at he; exact .inr (.inr ⟨id, rfl, he.symm⟩)
            | pan v => simp [jumpOf] at he
          rcases List.mem_cons.1 hm with hm | hm
          · cases hm
            refine ⟨hd, st, p, fn, e, sz, ps, a, b, d, hg, ?_⟩
            rcases key with ⟨h1, rfl⟩ | ⟨h1, rfl⟩ | ⟨id, h1, rfl⟩
            · exact .inl ⟨h1, List.mem_cons_self⟩
            · exact .inr (.inl ⟨h1, List.mem_cons_self⟩)
            · exact .inr (.inr ⟨id, h1, List.mem_cons_self⟩)
          · obtain ⟨g0, st', p', fn', e', sz', ps', a', b', d', g1, g2⟩ := endRound_spec hrest x s hm
            have hsub : ∀ q, q ∈ rest → q ∈ es := fun q hq => by
              rcases key with ⟨h1, rfl⟩ | ⟨h1, rfl⟩ | ⟨id, h1, rfl⟩ <;> exact List.mem_cons_of_mem _ hq
            refine ⟨g0, st', p', fn', e', sz', ps', a', b', d', g1, ?_⟩
            rcases g2 with ⟨h1, h2⟩ | ⟨h1, h2⟩ | ⟨id, h1, h2⟩
            · exact .inl ⟨h1, hsub _ h2⟩
            · exact .inr (.inl ⟨h1, hsub _ h2⟩)
            · exact .inr (.inr ⟨id, h1, hsub _ h2⟩)
        · simp at he

theorem callY_sound (hk : k.Ok) {code : Bool → FuncId → Code → S → Option Outs} (hc : ∀ fid c, COk k true c (code true fid c)) {l : Nat} {args : List V} {es : List E} (hv : callY code l args h = some es)
    {xs : List Value} {L : Loc} (hg : GRel k.gl Φ.blk) (hL : θ l = some L) (ha : concL θ args = some xs) (hi : Inv Φ θ h w) :
    ∃ fn tmps assign body, (Instr.yield L.blk ⟨xs⟩).run k.p w = .ok (.round L.blk fn tmps assign body) w ∧ RoundIn Fence.wide 0 k.p L.blk fn tmps assign body w (EOk Φ θ es) := by
  unfold callY at hv
  split at hv
  · rename_i pend fid e sz ps assign body dd hgl
    obtain ⟨L', hL', fn, tm, Ld, h1, h2⟩ := hi.rel l _ hgl
    rw [hL] at hL'; cases hL'
    split at hv
    · simp at hv
    · rename_i e' he'
      obtain ⟨hlen, hts⟩ := setParams_sound he' ha h2
      have hsz : (⟨xs⟩ : Array Value).size = ps.size := by simpa using hlen
      have hy := run_yield (P := k.p) h1 (args := ⟨xs⟩) hsz
      refine ⟨_, _, _, _, hy, ?_⟩
      have htm : OkTmps θ e' sz ((ps.zip ⟨xs⟩).foldl (fun tmps (t, a) => tmps.setIfInBounds t a) tm) := by
        have hz : (ps.zip ⟨xs⟩).toList = ps.toList.zip xs := by simp
        rw [← Array.foldl_toList, hz]
        exact hts
      split at hv
      · rename_i s1 hs1
        split at hv
        · simp at hv
        · rename_i hd1
          split at hv
          · rename_i pend1 fn1 e1 sz1 ps1 as1 bo1 d1 hg1
            split at hv
            · rename_i oo hoo
              refine roundIn_of_wpIn trivial ?_
              refine hc _ assign hs1 (.inr ⟨rfl, L.blk, rfl⟩) hg (θ := θ) ⟨htm, trivial, hi⟩ ?_
              rintro e2 a2 w2 ⟨x2, s2, θ2, m1, m2, m3, m4⟩
              simp only [List.mem_singleton, Prod.mk.injEq] at m1
              obtain ⟨rfl, rfl⟩ := m1
              cases m3
              have hL2 : θ2 l = some L := m2 _ _ hL
              obtain ⟨L', hL', fn3, tm3, Ld3, g1, g2⟩ := m4.inv.rel l _ hg1
              rw [hL2] at hL'; cases hL'
              refine ⟨_, run_beginRound (P := k.p) g1 rfl, ?_⟩
              have i3 := m4.inv.put (y := .loop { state := .busy, pending := pend1, fn := fn3, tmps := tm3, params := ps1, assign := as1, body := bo1, defers := Ld3 }) hg1 hL2
                (o' := .loop .busy pend1 fn1 e1 sz1 ps1 as1 bo1 d1) fun hh => ⟨fn3, tm3, Ld3, hh, g2⟩
              refine hc _ body hoo (.inr ⟨rfl, L.blk, rfl⟩) hg (θ := θ2) ⟨m4.tmps, m4.defs, i3⟩ ?_
              rintro e4 a4 w4 ⟨x4, s4, θ4, n1, n2, n3, n4⟩
              obtain ⟨q0, st, p, fn5, e5, sz5, ps5, as5, bo5, d5, q1, q2⟩ := endRound_spec hv x4 s4 n1
              have hL4 : θ4 l = some L := n2 _ _ hL2
              obtain ⟨L', hL', fn6, tm6, Ld6, r1, r2⟩ := n4.inv.rel l _ q1
              rw [hL4] at hL'; cases hL'
              have hle : θ.le θ4 := Th.le_trans m2 n2
              have key : ∀ (j : Option Code) (v : Bool) (hes : E.ret (.bool v) (s4.h.set l (.loop (if j.isNone then .ready else .done) j fn5 e5 sz5 ps5 as5 bo5 d5)) ∈ es) (hv : v = j.isNone),
                  ∃ v w', (Instr.endRound L.blk j).run k.p w4 = .ok v w' ∧ EOk Φ θ es (.returned v) w' := fun j v hes hvj => by
                refine ⟨_, _, run_endRound (P := k.p) j r1, .bool v, _, θ4, hes, hle, by simp [conc, hvj], ?_⟩
                exact n4.inv.put q1 hL4 fun hh => ⟨fn6, tm6, Ld6, hh, r2⟩
              rcases q2 with ⟨rfl, hm⟩ | ⟨rfl, hm⟩ | ⟨id, rfl, hm⟩
              · cases n3; exact key none true hm rfl
              · cases n3; exact key (some .ret) false hm rfl
              · cases n3; exact key (some (.exit id)) false hm rfl
            · simp at hv
          · simp at hv
      · simp at hv
  · simp at hv

theorem code_sound (hk : k.Ok) (ho : OrcOk k) (HD : ∀ run, RunOk k run → DrawOk k run) : ∀ n rd fid c, COk k rd c (code k n rd fid c) := by
  intro n
  induction n using Nat.strongRecOn with
  | _ n ih =>
    intro rd fid c
    cases n with
    | zero => intro s outs hv; simp [code] at hv
    | succ n =>
      have hlt : ∀ m, m ≤ n → ∀ rd fid c, COk k rd c (code k m rd fid c) := fun m hm => ih m (Nat.lt_succ_of_le hm)
      have hrun : RunOk k ⟨callO k (code k n), callY (code k n), rd⟩ := ⟨fun hv => fun hg ha hi => ?_, fun hv => fun hg hL ha hi => ?_⟩
      · intro s outs hv F hF Φ θ a w Q hg hS hQ
        exact code_step hk HD hrun (fun m hm => hlt m hm rd fid) c hv hF hg hS hQ
      · exact callO_sound hk ho (fun fid c => hlt n (Nat.le_refl n) false fid c) hv hg ha hi
      · exact callY_sound hk (fun fid c => hlt n (Nat.le_refl n) true fid c) hv hg hL ha hi

/-- What must stay: all that there is. -/
def frameOf (w : World) : Fr := ⟨fun i => w.heap[i]?, w.os, w.tape, w.output⟩
theorem inv_start (w : World) : Inv (frameOf w) (fun _ => none) start w :=
  ⟨fun b o e => (by have : (Tr.lf : Tr O).get b = none := Tr.get_lf b; rw [show start.t = Tr.lf from rfl, this] at e; cases e), ⟨fun _ _ h => h, rfl, rfl, rfl⟩, fun b L e => (by cases e), fun b b' o o' L L' e _ hL => (by cases hL), fun _ _ => rfl⟩
theorem below_of {θ : Th} {h : H} {w w' : World} (hi : Inv (frameOf w) θ h w') : RowKit.Below w.heap.size w w' := by
  have hb : ∀ i, i < w.heap.size → w'.heap[i]? = w.heap[i]? := fun i hlt => by
    have h1 : w.heap[i]? = some w.heap[i] := Array.getElem?_eq_getElem hlt
    rw [h1]
    exact hi.fr.1 i _ h1
  refine ⟨hi.fr.2.1, hi.fr.2.2.1, hi.fr.2.2.2, ?_, hb⟩
  refine Nat.le_of_not_lt fun hlt => ?_
  have h1 := hb w'.heap.size hlt
  rw [Array.getElem?_eq_none (Nat.le_refl _), Array.getElem?_eq_getElem hlt] at h1
  cases h1

/-- A closed run that is true. -/
theorem shows_sound (hk : k.Ok) (ho : OrcOk k) (HD : ∀ run, RunOk k run → DrawOk k run) {n : Nat} {f : FuncId} (hs : shows k n f = true) (hg : GRel k.gl fun i => w.heap[i]?) :
    Calls k.p f #[] w fun e w' => e = .returned (.bool true) ∧ RowKit.Below w.heap.size w w' := by
  unfold shows at hs
  split at hs
  · rename_i l hl
    have := callF_sound (k := k) hk (fun fid c => code_sound hk ho HD n false fid c) hl (Φ := frameOf w) (θ := fun _ => none) (w := w) (xs := []) hg (concL_nil _) (inv_start w)
    refine callsIn_wide.1 (this.mono fun e w' he => ?_)
    have hall := List.all_eq_true.1 hs
    cases e with
    | returned x =>
      obtain ⟨v, h, θ', m1, m2, m3, m4⟩ := he
      have := hall _ m1
      simp only [isTrue] at this
      cases v <;> simp at this
      subst this
      rw [conc_bool m3]
      exact ⟨rfl, below_of m4⟩
    | panicked chain =>
      obtain ⟨v, h, θ', x, m1, _⟩ := he
      have := hall _ m1
      simp [isTrue] at this
    | outgrown => exact he.elim
  · cases hs
end Go.Proofs.YtnboghpebjciaaaGreatDoor.Ev

namespace Go.Proofs.YtnboghpebjciaaaGreatDoor.Ev
variable [Sym]
section
variable {P : Program} {ops : Array Oper} {Q : Exit → Act → World → Prop}

/-- Whatever order is picked from here on, and what must hold (it hangs on what has come up) holds behind every operation. -/
def wpAnyL (P : Program) (ops : Array Oper) (Q : Exit → Act → World → Prop) (S : Array Bool → World → Prop) : Nat → Array Bool → Act → World → Prop
  | 0, listed, a, w => Region.ready .any ops listed = [] ∧ Q .normal a w
  | fuel + 1, listed, a, w =>
    (Region.ready .any ops listed = [] → Q .normal a w) ∧
    ∀ i ∈ Region.ready .any ops listed, wpOpIn Fence.wide 0 P ops Q i (fun a' w' => S (listed.setIfInBounds i true) w' ∧ wpAnyL P ops Q S fuel (listed.setIfInBounds i true) a' w') a w
theorem wpAnyIn_of_L {S : Array Bool → World → Prop} : ∀ (fuel : Nat) (listed : Array Bool) (a : Act) (w : World), wpAnyL P ops Q S fuel listed a w → wpAnyIn Fence.wide 0 P .any ops Q fuel listed a w
  | 0, _, _, _, h => h
  | fuel + 1, _, _, _, h => ⟨h.1, fun i hi => wpOpIn_mono (fun a' w' h' => wpAnyIn_of_L fuel _ a' w' h'.2) (h.2 i hi)⟩
theorem wpAnyL_weaken {S S' : Array Bool → World → Prop} (hs : ∀ l w, S l w → S' l w) : ∀ (fuel : Nat) (listed : Array Bool) (a : Act) (w : World), wpAnyL P ops Q S fuel listed a w → wpAnyL P ops Q S' fuel listed a w
  | 0, _, _, _, h => h
  | fuel + 1, _, _, _, h => ⟨h.1, fun i hi => wpOpIn_mono (fun a' w' h' => ⟨hs _ _ h'.1, wpAnyL_weaken hs fuel _ a' w' h'.2⟩) (h.2 i hi)⟩

def Closed (ops : Array Oper) (listed : Array Bool) : Prop := ∀ j oj, ops[j]? = some oj → listed.getD j false = true → ∀ e ∈ oj.after, Region.binds .any e = true → listed.getD e.on false = true
theorem getD_tf {listed : Array Bool} {j : Nat} (h : listed.getD j false = true) : listed.getD j true = true := by
  rcases Nat.lt_or_ge j listed.size with h' | h'
  · simpa [h'] using h
  · simp [Array.getElem?_eq_none h']
theorem getD_ft {listed : Array Bool} {j : Nat} (h : listed.getD j true = false) : listed.getD j false = false := by
  rcases Nat.lt_or_ge j listed.size with h' | h'
  · simpa [h'] using h
  · simp [Array.getElem?_eq_none h'] at h
theorem getD_set_self {listed : Array Bool} {i : Nat} (h : listed.getD i true = false) : (listed.setIfInBounds i true).getD i false = true := by
  rcases Nat.lt_or_ge i listed.size with h' | h'
  · simp [h']
  · simp [Array.getElem?_eq_none h'] at h
theorem getD_set_ne' {listed : Array Bool} {i j : Nat} (d : Bool) (h : j ≠ i) : (listed.setIfInBounds i true).getD j d = listed.getD j d := getD_set_ne d (Ne.symm h)
theorem Closed.set {listed : Array Bool} (h : Closed ops listed) {i : Nat} (hi : i ∈ Region.ready .any ops listed) : Closed ops (listed.setIfInBounds i true) := by
  intro j oj hj hl e he hb
  by_cases hji : j = i
  · subst hji
    obtain ⟨_, o, ho, hall⟩ := mem_ready.1 hi
    rw [hj] at ho; cases ho
    exact getD_set_true (hall e he hb)
  · rw [getD_set_ne' false hji] at hl
    exact getD_set_true (h j oj hj hl e he hb)
theorem waits_spec {i n j : Nat} {oj : Oper} (hj : ops[j]? = some oj) (hw : waits ops i (n + 1) j = true) : ∃ e ∈ oj.after, Region.binds .any e = true ∧ (e.on = i ∨ waits ops i n e.on = true) := by
  simp only [waits, hj] at hw
  obtain ⟨e, he, hb⟩ := List.any_eq_true.1 hw
  simp only [Bool.and_eq_true, Bool.or_eq_true] at hb
  exact ⟨e, by simpa using he, hb.1, hb.2.imp (fun h => Nat.eq_of_beq_eq_true h) id⟩
theorem closed_waits {listed : Array Bool} (h : Closed ops listed) {i : Nat} : ∀ (n j : Nat), listed.getD j false = true → waits ops i n j = true → listed.getD i false = true
  | 0, j, _, hw => by simp [waits] at hw
  | n + 1, j, hl, hw => by
    cases hj : ops[j]? with
    | none => simp [waits, hj] at hw
    | some oj =>
      obtain ⟨e, he, hb, h1 | h1⟩ := waits_spec hj hw
      · rw [← h1]; exact h j oj hj hl e he hb
      · exact closed_waits h n e.on (h j oj hj hl e he hb) h1
/-- One that may come up waits for nobody that has not come up. -/
theorem ready_waits {listed : Array Bool} (h : Closed ops listed) {i j n : Nat} (hj : j ∈ Region.ready .any ops listed) (hw : waits ops i n j = true) : listed.getD i false = true := by
  obtain ⟨_, oj, ho, hall⟩ := mem_ready.1 hj
  cases n with
  | zero => simp [waits] at hw
  | succ n =>
    obtain ⟨e, he, hb, h1 | h1⟩ := waits_spec ho hw
    · rw [← h1]; exact hall e he hb
    · exact closed_waits h n e.on (hall e he hb) h1

/-- What must hold: the frame; of every cut, as long as nobody who waits for it has come up. -/
def SL (P : Program) (Φ : Fr) (ops : Array Oper) (cs : List (Nat × (World → Prop))) (listed : Array Bool) (w : World) : Prop :=
  Φ.ok w ∧ ∀ c ∈ cs, (∃ (j : Nat) (oj : Oper), ops[j]? = some oj ∧ quiet P oj.op = false ∧ listed.getD j false = true ∧ waits ops c.1 ops.size j = true) ∨ c.2 w
theorem SL.more {Φ : Fr} {cs : List (Nat × (World → Prop))} {listed : Array Bool} {w : World} (h : SL P Φ ops cs listed w) (i : Nat) : SL P Φ ops cs (listed.setIfInBounds i true) w :=
  ⟨h.1, fun c hc => (h.2 c hc).imp (fun ⟨j, oj, h1, h2, h3, h4⟩ => ⟨j, oj, h1, h2, getD_set_true h3, h4⟩) id⟩

/-- The rest of an operation, whatever else is known of the state it leaves. -/
theorem wpOpIn_shape {j : Nat} {oj : Oper} (hj : ops[j]? = some oj) {K : Act → World → Prop} {a : Act} {w : World} (h : wpOpIn Fence.wide 0 P ops Q j K a w) :
    wpOpIn Fence.wide 0 P ops Q j (fun a' w' => (∃ ds u, a' = ({ a with defers := ds } : Act).put oj.dst u) ∧ K a' w') a w := by
  unfold wpOpIn at *
  simp only [hj] at *
  split
  · rename_i hw
    simp only [hw, if_true] at h
    unfold Oper.wpIn at *
    refine ⟨h.1, ?_⟩
    replace h := h.2
    generalize (oj.semAt Fence.wide.round a.eval).run P w = r at *
    cases r with
    | ok x w' =>
      cases x <;> simp only [Oper.uponIn] at h ⊢
      case value u => exact ⟨⟨a.defers, u, rfl⟩, h⟩
      case skip => exact ⟨⟨a.defers, undef, rfl⟩, h⟩
      case defer d => exact ⟨⟨_, undef, rfl⟩, h⟩
      case enter f args =>
        refine ⟨h.1, CallsIn.mono h.2 fun e w'' he => ?_⟩
        cases e with
        | returned u => exact ⟨⟨a.defers, u, rfl⟩, he⟩
        | panicked c => exact he
        | outgrown => exact he
      case row row args => exact ⟨h.1, RowsIn.mono h.2 fun u w'' he => ⟨⟨a.defers, u, rfl⟩, he⟩⟩
      case round l f tmps assign body =>
        refine ⟨h.1, RoundIn.mono h.2 fun e w'' he => ?_⟩
        cases e with
        | returned u => exact ⟨⟨a.defers, u, rfl⟩, he⟩
        | panicked c => exact he
        | outgrown => exact he
    | halt x w' =>
      cases x <;> simp only [Oper.uponIn] at h ⊢
      case panic u => exact h
  · rename_i hw
    simp only [hw] at h
    exact ⟨h.1, ⟨a.defers, undef, rfl⟩, h.2⟩

/-- An operation, beside which a temporary holds something that it does not look at. (No panic is let out.) -/
theorem wpOpIn_beside {j : Nat} {oj : Oper} {dst : Option Tmp} {v : Value} (hj : ops[j]? = some oj) (h1 : ∀ d, dst = some d → d ∉ oj.looksAt ops) (h2 : ∀ d, dst = some d → oj.dst ≠ some d)
    (hsj : ∀ cs b, oj.op ≠ .select cs b) (hQ : ∀ c a w, ¬ Q (.panic c) a w) {K : Act → World → Prop} {a : Act} {w : World}
    (h : wpOpIn Fence.wide 0 P ops Q j (fun a' w' => K (a'.put dst v) w') a w) : wpOpIn Fence.wide 0 P ops Q j K (a.put dst v) w := by
  unfold wpOpIn at *
  simp only [hj] at *
  rw [wanted_put oj a dst v h1]
  split
  · rename_i hw
    simp only [hw, if_true] at h
    unfold Oper.wpIn at *
    refine ⟨fun _ _ => trivial, ?_⟩
    replace h := h.2
    rw [show Fence.wide.round = none from rfl, Oper.semAt_none] at *
    rw [execOp_put oj hsj a dst v h1]
    generalize (execOp a.eval oj).run P w = r at *
    cases r with
    | ok x w' =>
      cases x <;> simp only [Oper.uponIn] at h ⊢
      case value u => rw [Act.put_comm a v u h2]; exact h
      case skip => rw [Act.put_comm a v undef h2]; exact h
      case defer d =>
        have : ({ a.put dst v with defers := d :: (a.put dst v).defers } : Act) = ({ a with defers := d :: a.defers } : Act).put dst v := Act.put_defers a dst v d
        rw [this, Act.put_comm _ v undef h2]
        exact h
      case enter f args =>
        refine ⟨h.1, CallsIn.mono h.2 fun e w'' he => ?_⟩
        cases e with
        | returned u => show K ((a.put dst v).put oj.dst u) w''; rw [Act.put_comm a v u h2]; exact he
        | panicked c => exact absurd he (hQ _ _ _)
        | outgrown => exact he
      case row row args => exact ⟨h.1, RowsIn.mono h.2 fun u w'' he => by rw [Act.put_comm a v u h2]; exact he⟩
      case round l f tmps assign body =>
        refine ⟨h.1, RoundIn.mono h.2 fun e w'' he => ?_⟩
        cases e with
        | returned u => show K ((a.put dst v).put oj.dst u) w''; rw [Act.put_comm a v u h2]; exact he
        | panicked c => exact absurd he (hQ _ _ _)
        | outgrown => exact he
    | halt x w' =>
      cases x <;> simp only [Oper.uponIn] at h ⊢
      case panic u => exact absurd h (hQ _ _ _)
  · rename_i hw
    simp only [hw] at h
    exact ⟨fun _ _ => trivial, by rw [Act.put_comm a v undef h2]; exact h.2⟩
/-- The other way. -/
theorem wpOpIn_without {j : Nat} {oj : Oper} {dst : Option Tmp} {v : Value} (hj : ops[j]? = some oj) (h1 : ∀ d, dst = some d → d ∉ oj.looksAt ops) (h2 : ∀ d, dst = some d → oj.dst ≠ some d)
    (hsj : ∀ cs b, oj.op ≠ .select cs b) (hQ : ∀ c a w, ¬ Q (.panic c) a w) {K : Act → World → Prop} {a : Act} {w : World}
    (h : wpOpIn Fence.wide 0 P ops Q j K (a.put dst v) w) : wpOpIn Fence.wide 0 P ops Q j (fun a' w' => K (a'.put dst v) w') a w := by
  unfold wpOpIn at *
  simp only [hj] at *
  rw [wanted_put oj a dst v h1] at h
  split
  · rename_i hw
    simp only [hw, if_true] at h
    unfold Oper.wpIn at *
    refine ⟨fun _ _ => trivial, ?_⟩
    replace h := h.2
    rw [show Fence.wide.round = none from rfl, Oper.semAt_none] at *
    rw [execOp_put oj hsj a dst v h1] at h
    generalize (execOp a.eval oj).run P w = r at *
    cases r with
    | ok x w' =>
      cases x <;> simp only [Oper.uponIn] at h ⊢
      case value u => rw [Act.put_comm a v u h2] at h; exact h
      case skip => rw [Act.put_comm a v undef h2] at h; exact h
      case defer d =>
        have : ({ a.put dst v with defers := d :: (a.put dst v).defers } : Act) = ({ a with defers := d :: a.defers } : Act).put dst v := Act.put_defers a dst v d
        rw [this, Act.put_comm _ v undef h2] at h
        exact h
      case enter f args =>
        refine ⟨h.1, CallsIn.mono h.2 fun e w'' he => ?_⟩
        cases e with
        | returned u => show K ((a.put oj.dst u).put dst v) w''; rw [← Act.put_comm a v u h2]; exact he
        | panicked c => exact absurd he (hQ _ _ _)
        | outgrown => exact he
      case row row args => exact ⟨h.1, RowsIn.mono h.2 fun u w'' he => by rw [← Act.put_comm a v u h2]; exact he⟩
      case round l f tmps assign body =>
        refine ⟨h.1, RoundIn.mono h.2 fun e w'' he => ?_⟩
        cases e with
        | returned u => show K ((a.put oj.dst u).put dst v) w''; rw [← Act.put_comm a v u h2]; exact he
        | panicked c => exact absurd he (hQ _ _ _)
        | outgrown => exact he
    | halt x w' =>
      cases x <;> simp only [Oper.uponIn] at h ⊢
      case panic u => exact absurd h (hQ _ _ _)
  · rename_i hw
    simp only [hw] at h
    exact ⟨fun _ _ => trivial, by rw [← Act.put_comm a v undef h2]; exact h.2⟩

/-- Nobody who has not come up, and does not wait for it, touches it. -/
def FreeP (ops : Array Oper) (listed : Array Bool) (i : Nat) (oi : Oper) : Prop :=
  ∀ j oj, ops[j]? = some oj → j ≠ i → listed.getD j true = false → (∀ e ∈ oj.after, Region.binds .any e = true → e.on ≠ i) → oi.apart ops oj = true
theorem FreeP.set {listed : Array Bool} {i : Nat} {oi : Oper} (h : FreeP ops listed i oi) (j : Nat) : FreeP ops (listed.setIfInBounds j true) i oi := fun q oq hq hqi hun hno => by
  refine h q oq hq hqi ?_ hno
  by_cases hjq : q = j
  · subst hjq
    rcases Nat.lt_or_ge q listed.size with h' | h'
    · simp [h'] at hun
    · simp at hun
  · rw [getD_set_ne' true hjq] at hun; exact hun

theorem yields_op {i : Nat} {o : Oper} {v : Value} {a : Act} {p : World → Prop} (hi : ops[i]? = some o) (hy : YieldsIf P ops p o v a) {K : Act → World → Prop} {w : World} (hS : p w) (h : K (a.put o.dst v) w) :
    wpOpIn Fence.wide 0 P ops Q i K a w := by
  unfold wpOpIn
  simp only [hi]
  rcases hy with ⟨hw, hv⟩ | ⟨hw, rfl⟩
  · simp only [hw, if_true, Oper.wpIn, show Fence.wide.round = none from rfl, Oper.semAt_none, hv w hS, Oper.uponIn]; exact ⟨fun _ _ => trivial, h⟩
  · simp only [hw, Bool.false_eq_true, if_false]; exact ⟨fun _ _ => trivial, h⟩

theorem any_first {Φ : Fr} {cs : List (Nat × (World → Prop))} {i : Nat} {oi : Oper} {v : Value} {p : World → Prop} (hi : ops[i]? = some oi) (hqi : quiet P oi.op = true) (hs : Region.noSelect ops = true) (hQ : ∀ c a w, ¬ Q (.panic c) a w) :
    ∀ (fuel : Nat) (listed : Array Bool) (a : Act) (w : World), FreeP ops listed i oi → i ∈ Region.ready .any ops listed → Closed ops listed → YieldsIf P ops (fun w => Φ.ok w ∧ p w) oi v a → SL P Φ ops cs listed w → p w →
      wpAnyL P ops Q (SL P Φ ops ((i, p) :: cs)) fuel (listed.setIfInBounds i true) (a.put oi.dst v) w → wpAnyL P ops Q (SL P Φ ops cs) (fuel + 1) listed a w := by
  have hw : ∀ l w, SL P Φ ops ((i, p) :: cs) l w → SL P Φ ops cs l w := fun l w h => ⟨h.1, fun c hc => h.2 c (List.mem_cons_of_mem _ hc)⟩
  intro fuel
  induction fuel with
  | zero =>
    intro listed a w hfree hr hcl hy hS hp H
    refine ⟨fun h => (by rw [h] at hr; cases hr), fun j hj => ?_⟩
    by_cases hji : j = i
    · subst hji; exact yields_op hi hy ⟨hS.1, hp⟩ ⟨hS.more j, H⟩
    · have := ready_mono hj hji
      rw [H.1] at this; cases this
  | succ fuel ih =>
    intro listed a w hfree hr hcl hy hS hp H
    refine ⟨fun h => (by rw [h] at hr; cases hr), fun j hj => ?_⟩
    by_cases hji : j = i
    · subst hji; exact yields_op hi hy ⟨hS.1, hp⟩ ⟨hS.more j, wpAnyL_weaken hw _ _ _ _ H⟩
    · have h1 := H.2 j (ready_mono hj hji)
      obtain ⟨hjun, oj, hoj, hall⟩ := mem_ready.1 hj
      have hnot : ∀ e ∈ oj.after, Region.binds .any e = true → e.on ≠ i := fun e he hb heq => by
        have h1 := hall e he hb
        have h0 := getD_ft (mem_ready.1 hr).1
        rw [heq, h0] at h1; cases h1
      obtain ⟨a1, a2, a3⟩ := Oper.apart_spec (hfree j oj hoj hji hjun hnot)
      have hsel := Region.noSelect_spec hs
      have h2 := wpOpIn_shape hoj (wpOpIn_without hoj a1 a2 (fun cs b => hsel j oj cs b hoj) hQ h1)
      refine wpOpIn_mono ?_ h2
      rintro a' w' ⟨⟨ds, u, rfl⟩, hS', H'⟩
      have hy' : YieldsIf P ops (fun w => Φ.ok w ∧ p w) oi v (({ a with defers := ds } : Act).put oj.dst u) :=
        YieldsIf.of_same (a := { a with defers := ds }) (hy.of_same rfl rfl) (execOp_put oi (fun cs b => hsel i oi cs b hi) _ oj.dst u a3) (wanted_put oi _ oj.dst u a3)
      have hback : ∀ j' oj', ops[j']? = some oj' → quiet P oj'.op = false → ((listed.setIfInBounds i true).setIfInBounds j true).getD j' false = true → (listed.setIfInBounds j true).getD j' false = true := by
        intro j' oj' hoj' hq' hl
        have hne : j' ≠ i := fun hc => by subst hc; rw [hi] at hoj'; cases hoj'; rw [hqi] at hq'; cases hq'
        rw [Array.setIfInBounds_comm _ _ (Ne.symm hji), getD_set_ne' false hne] at hl
        exact hl
      have hcl' := hcl.set hj
      have hiun : (listed.setIfInBounds j true).getD i false = false := by
        rw [getD_set_ne' false (Ne.symm hji)]; exact getD_ft (mem_ready.1 hr).1
      have hp' : p w' := by
        rcases hS'.2 (i, p) List.mem_cons_self with ⟨j', oj', q1, q2, q3, q4⟩ | hp'
        · have := closed_waits hcl' ops.size j' (hback j' oj' q1 q2 q3) q4
          rw [hiun] at this; cases this
        · exact hp'
      have hS2 : SL P Φ ops cs (listed.setIfInBounds j true) w' :=
        ⟨hS'.1, fun c hc => (hS'.2 c (List.mem_cons_of_mem _ hc)).imp (fun ⟨j', oj', q1, q2, q3, q4⟩ => ⟨j', oj', q1, q2, hback j' oj' q1 q2 q3, q4⟩) id⟩
      refine ⟨hS2, ih (listed.setIfInBounds j true) _ w' (hfree.set j) (ready_mono hr (Ne.symm hji)) hcl' hy' hS2 hp' ?_⟩
      rw [Array.setIfInBounds_comm _ _ hji]
      exact H'
end
end Go.Proofs.YtnboghpebjciaaaGreatDoor.Ev

namespace Go.Proofs.YtnboghpebjciaaaGreatDoor.Ev
variable [Sym]
variable {k : K} {h h' : H} {s : S} {a : Act} {θ : Th} {w w' : World} {o : Oper} {Φ : Fr} {ops : Array Oper}

/-! Cuts. -/
theorem Cut.heap_get {n b : Nat} {o : O} : ∀ {c : Cut}, (c.heap n).t.get b = some o →
    (∃ off vs m, c = .cells b off vs m ∧ o = .cells m ((C.s [] .lf).put off vs) 0) ∨ ∃ es clock, c = .map b es clock ∧ o = .map es clock
  | .none, h => by
    have : (Tr.lf : Tr O).get b = Option.none := Tr.get_lf b
    rw [show (Cut.heap n .none).t = Tr.lf from rfl, this] at h; cases h
  | .cells b' off vs m, h => by
    simp only [Cut.heap, Tr.get_set] at h
    by_cases hb : b = b'
    · subst hb; rw [if_pos rfl] at h; cases h; exact .inl ⟨off, vs, m, rfl, rfl⟩
    · rw [if_neg hb, Tr.get_lf] at h; cases h
  | .map b' es clock, h => by
    simp only [Cut.heap, Tr.get_set] at h
    by_cases hb : b = b'
    · subst hb; rw [if_pos rfl] at h; cases h; exact .inr ⟨es, clock, rfl, rfl⟩
    · rw [if_neg hb, Tr.get_lf] at h; cases h

/-- Where a cut holds, its heap does. -/
theorem Cut.rel {c : Cut} (hc : c.holds h = true) (hr : HRel θ h w) (n : Nat) : HRel θ (c.heap n) w := by
  intro b o hg
  rcases Cut.heap_get hg with ⟨off, vs, m, rfl, rfl⟩ | ⟨es, clock, rfl, rfl⟩
  · simp only [Cut.holds] at hc
    split at hc
    · rename_i n' c' z hgb
      simp only [Bool.and_eq_true] at hc
      have hn := Nat.eq_of_beq_eq_true hc.1
      subst hn
      have hc := hc.2
      split at hc
      · rename_i ws hws
        have := beqL_eq _ _ hc
        subst this
        obtain ⟨L, hL, arr, el, lo, hi, h1, h2, h3, h4, h5⟩ := hr b _ hgb
        have hfit : (C.s [] .lf).fits (off + vs.length) := fun xs e => by cases e
        refine ⟨L, hL, arr, el, lo, hi, h1, h2, by omega, fun xs e => ?_, fun i v hi hv => ?_⟩
        · have := C.fits_put vs (C.s [] .lf) off n' (fun xs e => by cases e)
          exact this xs e
        · rw [C.get_put _ _ _ _ hfit] at hv
          by_cases hin : off ≤ i ∧ i < off + vs.length
          · rw [if_pos hin] at hv
            refine h5 i v hi ?_
            obtain ⟨hl, hgr⟩ := C.range_get _ _ _ _ hws
            have := hgr (i - off) (by omega)
            rw [show off + (i - off) = i from by omega] at this
            rw [this]; exact hv
          · rw [if_neg hin] at hv
            simp [C.get, nth_eq, show (Tr.lf : Tr V).get i = Option.none from Tr.get_lf i] at hv
      · cases hc
    · cases hc
  · simp only [Cut.holds] at hc
    split at hc
    · rename_i fs cl hgb
      simp only [Bool.and_eq_true] at hc
      have hn := Nat.eq_of_beq_eq_true hc.1
      subst hn
      have := beqE_eq _ _ hc.2
      subst this
      exact hr b _ hgb
    · cases hc
/-- What a relation says of a heap hangs on what the map says of it alone. -/
theorem HRel.down {θ θ' : Th} (hle : θ.le θ') {n : Nat} {c : Cut} {w0 w : World} (h0 : HRel θ (c.heap n) w0) (h1 : HRel θ' (c.heap n) w) : HRel θ (c.heap n) w := by
  intro b o hg
  obtain ⟨L, hL, ho⟩ := h0 b o hg
  obtain ⟨L', hL', ho'⟩ := h1 b o hg
  rw [hle _ _ hL] at hL'; cases hL'
  refine ⟨L, hL, ?_⟩
  rcases Cut.heap_get hg with ⟨off, vs, m, rfl, rfl⟩ | ⟨es, clock, rfl, rfl⟩
  · obtain ⟨arr0, _, _, _, _, _, _, _, p5⟩ := ho
    obtain ⟨arr, el, lo, hi, q1, q2, q3, q4, q5⟩ := ho'
    refine ⟨arr, el, lo, hi, q1, q2, q3, q4, fun i v hi hv => ?_⟩
    obtain ⟨x, hx, _⟩ := p5 i v hi hv
    obtain ⟨y, hy, hy'⟩ := q5 i v hi hv
    rw [conc_le hle _ _ hx] at hy; cases hy
    exact ⟨x, hx, hy'⟩
  · obtain ⟨p0, fs0, _, p2⟩ := ho
    obtain ⟨q0, fs, q1, q2⟩ := ho'
    refine ⟨q0, fs, q1, ?_⟩
    clear q1 hg h0 h1
    generalize fs0.toList = l0 at p2
    generalize fs.toList = l1 at q2
    induction p2 generalizing l1 with
    | nil => cases q2; exact .nil
    | cons hx _ ih =>
      cases q2 with
      | cons hy hys =>
        obtain ⟨x1, x2, x3⟩ := hx
        obtain ⟨y1, y2, y3⟩ := hy
        rw [conc_le hle _ _ x1] at y1
        rw [conc_le hle _ _ x2] at y2
        exact .cons ⟨by rw [x1]; exact y1, by rw [x2]; exact y2, y3⟩ (ih _ hys)

/-- What a cut promises. -/
def CutP (θ : Th) (c : Cut) (p : World → Prop) : Prop := ∀ θ' h w, θ.le θ' → c.holds h = true → HRel θ' h w → p w
theorem CutP.le {θ θ' : Th} {c : Cut} {p : World → Prop} (hle : θ.le θ') (h : CutP θ c p) : CutP θ' c p := fun θ₂ h' w h1 h2 h3 => h θ₂ h' w (Th.le_trans hle h1) h2 h3
theorem cutP_of {c : Cut} {n : Nat} (hc : c.holds h = true) (hr : HRel θ h w) : CutP θ c (fun w => HRel θ (c.heap n) w) := fun θ' h' w' hle hc' hr' =>
  HRel.down hle (Cut.rel hc hr n) (Cut.rel hc' hr' n)

/-! What is made early. -/
/-- An operation that makes one block, in whatever world. -/
def Makes (P : Program) (f : Nat → Value) (y : Obj) (a : Act) (o : Oper) : Prop := ∀ w, (execOp a.eval o).run P w = .ok (.value (f w.heap.size)) (w.alloc y)
theorem Makes.unique {P : Program} {f f' : Nat → Value} {y y' : Obj} (h : Makes P f y a o) (h' : Makes P f' y' a o) (n : Nat) : f n = f' n ∧ y = y' := by
  let w : World := { (default : World) with heap := Array.replicate n y }
  have h1 := h w
  rw [h' w] at h1
  simp only [Result.ok.injEq, Next.value.injEq] at h1
  have hsz : w.heap.size = n := by simp [w]
  rw [hsz] at h1
  have h2 := congrArg (fun w => w.heap[n]?) h1.2
  have e1 : ∀ y : Obj, (w.alloc y).heap[n]? = some y := fun y => by have := heap_new w y; rw [hsz] at this; exact this
  simp only [e1, Option.some.injEq] at h2
  exact ⟨h1.1.symm, h2.symm⟩
theorem makes_spec (hm : makes o = true) : o.guard = none ∧ ((∃ t, o.op = .alloc t) ∨ ∃ t l c, o.op = .makeSlice t l c) := by
  unfold makes at hm
  split at hm
  · cases hm
  · rename_i hg
    refine ⟨hg, ?_⟩
    split at hm
    · rename_i t ho; exact .inl ⟨t, ho⟩
    · rename_i t l c ho; exact .inr ⟨t, l, c, ho⟩
    · cases hm
theorem makes_loud {P : Program} (hm : makes o = true) : quiet P o.op = false := by
  obtain ⟨_, ⟨t, ho⟩ | ⟨t, l, c, ho⟩⟩ := makes_spec hm <;> rw [ho] <;> rfl

theorem mk_sound (hm : makes o = true) (E : Ops θ s a) {r : R} (hv : evL k s o = some r) : ∃ v oo y f, r = .val v (s.h.add oo) ∧ Makes k.p f y a o ∧
    ∀ (θ' : Th) (blk : Nat), θ' s.h.n = some ⟨blk, 0, 0⟩ → conc θ' v = some (f blk) ∧ ∀ w : World, w.heap[blk]? = some y → OkO θ' ⟨blk, 0, 0⟩ w oo := by
  rw [evL_eq] at hv
  obtain ⟨hg, ⟨t, ho⟩ | ⟨t, l, c, ho⟩⟩ := makes_spec hm
  · simp only [evL0, ho] at hv
    split at hv
    · rename_i z hz
      obtain ⟨i, zv, h1, h2, rfl, h4, _⟩ := zeroOf_spec (w := default) hz
      have h5 : ∀ w : World, (zeroValue t).run k.p w = .ok zv w := fun w => by
        obtain ⟨i', zv', g1', g2', _, _, g5'⟩ := zeroOf_spec (w := w) hz
        rw [h1] at g1'; cases g1'; rw [h2] at g2'; cases g2'; exact g5'
      simp only [Option.some.injEq] at hv
      refine ⟨_, _, .cells zv.cells t, fun b => .pointer (some ⟨b, 0, none⟩), hv.symm, fun w => ?_, fun θ' blk hb => ⟨by simp [conc, hb], fun w hw => ?_⟩⟩
      · simp only [execOp, ho, Instr.alloc, Sem.run_bind, h5, Result.andThen_ok, newVar, newRow, run_newObj_alloc, Sem.run_pure]
      · have hc := conc_cells (conc_ofConst θ' zv)
        refine ok_cells hw rfl ?_ ?_ fun i v hi hv => ?_
        · rw [concL_size hc, h4]; simp
        · have := C.zeros_fits (ofConst zv).cells 1
          rw [h4] at this
          simpa using this
        · rw [← h4] at hv hi
          rw [C.zeros_get _ _ _ (by omega), Nat.mod_eq_of_lt hi] at hv
          obtain ⟨x, hx, hx'⟩ := concL_get hc hv
          exact ⟨x, hx, by simpa using hx'⟩
    · simp at hv
  · simp only [evL0, ho] at hv
    split at hv
    · rename_i e ln cn he hln hcn
      have hu := elemOfT_spec he
      obtain ⟨kl, el⟩ := natOf_spec hln (E l)
      obtain ⟨kc, ec⟩ := natOf_spec hcn (E c)
      split at hv
      · rename_i z hz
        obtain ⟨i, zv, h1, h2, rfl, h4, _⟩ := zeroOf_spec (w := default) hz
        have h5 : ∀ w : World, (zeroValue e).run k.p w = .ok zv w := fun w => by
          obtain ⟨i', zv', g1', g2', _, _, g5'⟩ := zeroOf_spec (w := w) hz
          rw [h1] at g1'; cases g1'; rw [h2] at g2'; cases g2'; exact g5'
        obtain ⟨hb, hv⟩ := bif_some hv
        simp only [Bool.and_eq_true] at hb
        have b1 : ln ≤ cn := Nat.le_of_ble_eq_true hb.1.1
        have b2 : cn ≤ 16777216 := Nat.le_of_ble_eq_true hb.1.2
        have b3 : cn * k.p.bytesOf e ≤ 1000000000 := Nat.le_of_ble_eq_true hb.2
        simp only [Option.some.injEq] at hv
        have hbytes : k.p.bytesOf e = i.bytes := by simp [Program.bytesOf, h1]
        have wl : IntKind.i64.wrap (ln : Int) = ln := by simp [IntKind.wrap, IntKind.signed, IntKind.bits]; omega
        have wc : IntKind.i64.wrap (cn : Int) = cn := by simp [IntKind.wrap, IntKind.signed, IntKind.bits]; omega
        have hcond : ((decide ((cn : Int) < 0) || decide ((i.bytes : Int) * (cn : Int) > 2 ^ 48)) || decide ((ln : Int) < 0) || decide ((ln : Int) > (cn : Int))) = false := by
          rw [hbytes] at b3
          have : (i.bytes : Int) * (cn : Int) ≤ 1000000000 := by
            have : ((cn * i.bytes : Nat) : Int) ≤ 1000000000 := by omega
            rw [Int.mul_comm]; simpa using this
          simp
          omega
        refine ⟨_, _, .cells ((Array.range (cn * k.p.cellsOf e)).map ((if cn * k.p.cellsOf e = 0 then #[] else zv.cells)[· % (if cn * k.p.cellsOf e = 0 then #[] else zv.cells).size]!)) e, fun b => .slice (some ⟨b, 0, none⟩) ln cn, hv.symm, fun w => ?_, fun θ' blk hb => ⟨by simp [conc, hb], fun w hw => ?_⟩⟩
        · simp only [execOp, ho, el, ec, Instr.makeSlice, Sem.run_bind, run_und hu, asInt, asIntOf, Sem.run_pure, Result.andThen_ok, run_info h1, wl, wc]
          rw [hcond]
          by_cases h0 : cn * k.p.cellsOf e = 0
          · simp only [Bool.false_eq_true, if_false, Sem.run_pure, Result.andThen_ok, run_askRoom, info_size h1, Int.toNat_natCast, if_pos h0, newRow, Sem.run_bind, run_newObj_alloc]
          · simp only [Bool.false_eq_true, if_false, Sem.run_pure, Result.andThen_ok, run_askRoom, info_size h1, Int.toNat_natCast, if_neg h0, h5, newRow, Sem.run_bind, run_newObj_alloc]
        · have hrc := rc_zeros hz (conc_ofConst θ' zv) h4 cn θ' (Th.le_refl _)
          exact ok_cells hw rfl (by rw [hrc.size]; exact Nat.le_of_eq (by simp)) hrc.fits hrc.get
      · simp at hv
    · simp at hv
end Go.Proofs.YtnboghpebjciaaaGreatDoor.Ev

namespace Go.Proofs.YtnboghpebjciaaaGreatDoor.Ev
variable [Sym]
variable {k : K} {h h' : H} {s : S} {a : Act} {θ : Th} {w w' : World} {o : Oper} {Φ : Fr} {ops : Array Oper}

structure Early where
  i : Nat
  o : Oper
  f : Nat → Value
  y : Obj
  b : Nat
def mark (listed : Array Bool) (Es : List Early) : Array Bool := Es.foldl (fun l e => l.setIfInBounds e.i true) listed
def putsE (a : Act) (Es : List Early) : Act := Es.foldl (fun a e => a.put e.o.dst (e.f e.b)) a
def extF (Φ : Fr) (Es : List Early) : Fr := { Φ with blk := fun k => match Es.find? (fun e => e.b == k) with
  | some e => some e.y
  | none => Φ.blk k }
structure EsOk (P : Program) (Φ : Fr) (ops : Array Oper) (listed : Array Bool) (a : Act) (Es : List Early) : Prop where
  each : ∀ e ∈ Es, ops[e.i]? = some e.o ∧ makes e.o = true ∧ FreeP ops listed e.i e.o ∧ e.i ∈ Region.ready .any ops listed ∧ Makes P e.f e.y a e.o ∧ Φ.blk e.b = none
  di : Es.Pairwise fun x y => x.i ≠ y.i
  db : Es.Pairwise fun x y => x.b ≠ y.b

theorem mark_ne (d : Bool) {j : Nat} : ∀ {Es : List Early} {listed : Array Bool}, (∀ e ∈ Es, e.i ≠ j) → (mark listed Es).getD j d = listed.getD j d
  | [], _, _ => rfl
  | e :: Es, listed, h => by
    have : mark listed (e :: Es) = mark (listed.setIfInBounds e.i true) Es := rfl
    rw [this, mark_ne d fun e' he' => h e' (List.mem_cons_of_mem _ he'), getD_set_ne' d (Ne.symm (h e List.mem_cons_self))]
theorem mark_le {j : Nat} : ∀ {Es : List Early} {listed : Array Bool}, listed.getD j false = true → (mark listed Es).getD j false = true
  | [], _, h => h
  | e :: Es, listed, h => mark_le (Es := Es) (getD_set_true h)
theorem mark_mem {e : Early} : ∀ {Es : List Early} {listed : Array Bool}, e ∈ Es → listed.getD e.i true = false → (mark listed Es).getD e.i false = true
  | [], _, h, _ => by simp at h
  | e' :: Es, listed, h, hu => by
    have : mark listed (e' :: Es) = mark (listed.setIfInBounds e'.i true) Es := rfl
    rw [this]
    by_cases hi : e.i = e'.i
    · rw [hi]; exact mark_le (getD_set_self (hi ▸ hu))
    · rcases List.mem_cons.1 h with rfl | h
      · exact absurd rfl hi
      · exact mark_mem h (by rw [getD_set_ne' true hi]; exact hu)
theorem mark_set {j : Nat} : ∀ {Es : List Early} {listed : Array Bool}, (∀ e ∈ Es, e.i ≠ j) → mark (listed.setIfInBounds j true) Es = (mark listed Es).setIfInBounds j true
  | [], _, _ => rfl
  | e :: Es, listed, h => by
    have h1 : ∀ l, mark l (e :: Es) = mark (l.setIfInBounds e.i true) Es := fun _ => rfl
    rw [h1, h1, ← mark_set fun e' he' => h e' (List.mem_cons_of_mem _ he'), Array.setIfInBounds_comm _ _ (Ne.symm (h e List.mem_cons_self))]
theorem mark_append {Es Es' : List Early} {listed : Array Bool} : mark listed (Es ++ Es') = mark (mark listed Es) Es' := List.foldl_append
theorem putsE_append {Es Es' : List Early} {a : Act} : putsE a (Es ++ Es') = putsE (putsE a Es) Es' := List.foldl_append
theorem putsE_put {d : Option Tmp} {v : Value} : ∀ {Es : List Early} {a : Act}, (∀ e ∈ Es, ∀ t, d = some t → e.o.dst ≠ some t) → putsE (a.put d v) Es = (putsE a Es).put d v
  | [], _, _ => rfl
  | e :: Es, a, h => by
    have h1 : ∀ a, putsE a (e :: Es) = putsE (a.put e.o.dst (e.f e.b)) Es := fun _ => rfl
    rw [h1, h1, ← putsE_put fun e' he' => h e' (List.mem_cons_of_mem _ he'), Act.put_comm a v _ (h e List.mem_cons_self)]
theorem exec_putsE (hs : Region.noSelect ops = true) {j : Nat} {oj : Oper} (hj : ops[j]? = some oj) : ∀ {Es : List Early} {a : Act}, (∀ e ∈ Es, ∀ t, e.o.dst = some t → t ∉ oj.looksAt ops) →
    execOp (putsE a Es).eval oj = execOp a.eval oj ∧ Region.wanted oj (yielded ops (putsE a Es).tmps) = Region.wanted oj (yielded ops a.tmps)
  | [], _, _ => ⟨rfl, rfl⟩
  | e :: Es, a, h => by
    have h1 : putsE a (e :: Es) = putsE (a.put e.o.dst (e.f e.b)) Es := rfl
    obtain ⟨g1, g2⟩ := exec_putsE hs hj (Es := Es) (a := a.put e.o.dst (e.f e.b)) fun e' he' => h e' (List.mem_cons_of_mem _ he')
    rw [h1, g1, g2]
    exact ⟨execOp_put oj (fun cs b => Region.noSelect_spec hs j oj cs b hj) a _ _ (h e List.mem_cons_self), wanted_put oj a _ _ (h e List.mem_cons_self)⟩
theorem ready_mark {j : Nat} : ∀ {Es : List Early} {listed : Array Bool}, (∀ e ∈ Es, e.i ≠ j) → j ∈ Region.ready .any ops listed → j ∈ Region.ready .any ops (mark listed Es)
  | [], _, _, h => h
  | e :: Es, listed, h, hr => ready_mark (Es := Es) (fun e' he' => h e' (List.mem_cons_of_mem _ he')) (ready_mono hr (Ne.symm (h e List.mem_cons_self)))
theorem free_mark {j : Nat} {oj : Oper} : ∀ {Es : List Early} {listed : Array Bool}, FreeP ops listed j oj → FreeP ops (mark listed Es) j oj
  | [], _, h => h
  | e :: Es, listed, h => free_mark (Es := Es) (h.set e.i)
theorem closed_mark : ∀ {Es : List Early} {listed : Array Bool}, Closed ops listed → (∀ e ∈ Es, e.i ∈ Region.ready .any ops listed) → Es.Pairwise (fun x y => x.i ≠ y.i) → Closed ops (mark listed Es)
  | [], _, h, _, _ => h
  | e :: Es, listed, h, hr, hd => by
    obtain ⟨h1, h2⟩ := List.pairwise_cons.1 hd
    exact closed_mark (Es := Es) (h.set (hr e List.mem_cons_self)) (fun e' he' => ready_mono (hr e' (List.mem_cons_of_mem _ he')) (Ne.symm (h1 e' he'))) h2

theorem beside_all {P : Program} {Q : Exit → Act → World → Prop} (hs : Region.noSelect ops = true) (hQ : ∀ c a w, ¬ Q (.panic c) a w) {j : Nat} {oj : Oper} (hj : ops[j]? = some oj) {K : Act → World → Prop} : ∀ {Es : List Early} {a : Act} {w : World},
    (∀ e ∈ Es, e.o.apart ops oj = true) → wpOpIn Fence.wide 0 P ops Q j (fun a' w' => K (putsE a' Es) w') a w → wpOpIn Fence.wide 0 P ops Q j K (putsE a Es) w
  | [], _, _, _, h => h
  | e :: Es, a, w, hap, h => by
    obtain ⟨a1, a2, a3⟩ := Oper.apart_spec (hap e List.mem_cons_self)
    refine beside_all hs hQ hj (Es := Es) (a := a.put e.o.dst (e.f e.b)) (fun e' he' => hap e' (List.mem_cons_of_mem _ he')) ?_
    exact wpOpIn_beside hj a1 a2 (fun cs b => Region.noSelect_spec hs j oj cs b hj) hQ h

def unl (ops : Array Oper) (listed : Array Bool) : Nat := ((List.range ops.size).filter fun i => !listed.getD i true).length
theorem filter_lt {α : Type} {p q : α → Bool} : ∀ {l : List α} {x : α}, (∀ y ∈ l, q y = true → p y = true) → x ∈ l → p x = true → q x = false → (l.filter q).length < (l.filter p).length
  | [], x, _, hx, _, _ => by simp at hx
  | y :: l, x, h, hx, hp, hq => by
    have hle : (l.filter q).length ≤ (l.filter p).length := by
      have : ∀ l : List α, (∀ y ∈ l, q y = true → p y = true) → (l.filter q).length ≤ (l.filter p).length := by
        intro l
        induction l with
        | nil => intro _; exact Nat.le_refl _
        | cons z l ih =>
          intro h
          have := ih fun y hy => h y (List.mem_cons_of_mem _ hy)
          simp only [List.filter_cons]
          by_cases hqz : q z = true
          · rw [if_pos hqz, if_pos (h z List.mem_cons_self hqz)]; simpa using this
          · rw [if_neg hqz]; split <;> simp <;> omega
      exact this l fun y hy => h y (List.mem_cons_of_mem _ hy)
    simp only [List.filter_cons]
    rcases List.mem_cons.1 hx with rfl | hx
    · rw [if_pos hp, if_neg (by rw [hq]; simp)]; simp; omega
    · have ih := filter_lt (fun y hy => h y (List.mem_cons_of_mem _ hy)) hx hp hq
      by_cases hqy : q y = true
      · rw [if_pos hqy, if_pos (h y List.mem_cons_self hqy)]; simpa using ih
      · rw [if_neg hqy]; split <;> simp <;> omega
theorem unl_set {listed : Array Bool} {i : Nat} (hi : i < ops.size) (hu : listed.getD i true = false) : unl ops (listed.setIfInBounds i true) < unl ops listed := by
  refine filter_lt (x := i) (fun y hy hq => ?_) (List.mem_range.2 hi) (by simp only [hu, Bool.not_false]) ?_
  · by_cases hyi : y = i
    · subst hyi; simp only [hu, Bool.not_false]
    · simp only [getD_set_ne' true hyi] at hq; exact hq
  · have := getD_tf (getD_set_self hu)
    simp only [this, Bool.not_true]
theorem ready_lt {listed : Array Bool} {i : Nat} (hi : i ∈ Region.ready .any ops listed) : i < ops.size ∧ listed.getD i true = false := by
  obtain ⟨h1, o, ho, _⟩ := mem_ready.1 hi
  exact ⟨(Array.getElem?_eq_some_iff.1 ho).1, h1⟩

theorem findFree_spec {p : Program} {listed : Array Bool} {i : Nat} : ∀ {r : List Nat}, findFree p ops listed r = some i → i ∈ r ∧ ∃ o, ops[i]? = some o ∧ quiet p o.op = true ∧ Region.free .any ops listed i = true
  | [], h => by simp [findFree] at h
  | j :: r, h => by
    simp only [findFree] at h
    split at h
    · rename_i o ho
      cases hb : quiet p o.op && Region.free .any ops listed j with
      | true =>
        rw [hb, cond_true] at h
        simp only [Option.some.injEq] at h; subst h
        simp only [Bool.and_eq_true] at hb
        exact ⟨List.mem_cons_self, o, ho, hb.1, hb.2⟩
      | false =>
        rw [hb, cond_false] at h
        obtain ⟨h1, h2⟩ := findFree_spec h
        exact ⟨List.mem_cons_of_mem _ h1, h2⟩
    · obtain ⟨h1, h2⟩ := findFree_spec h
      exact ⟨List.mem_cons_of_mem _ h1, h2⟩
theorem pick_done {p : Program} {listed : Array Bool} (h : pick p ops listed = .done) : Region.ready .any ops listed = [] := by
  unfold pick at h
  split at h
  · assumption
  · split at h
    · cases h
    · split at h <;> cases h
theorem pick_quiet {p : Program} {listed : Array Bool} {i : Nat} (h : pick p ops listed = .quiet i) : i ∈ Region.ready .any ops listed ∧ ∃ o, ops[i]? = some o ∧ quiet p o.op = true ∧ Region.free .any ops listed i = true := by
  unfold pick at h
  split at h
  · cases h
  · split at h
    · rename_i j hj
      cases h
      exact findFree_spec hj
    · split at h <;> cases h
theorem pick_loud {p : Program} {listed : Array Bool} {j : Nat} {es : List Nat} (h : pick p ops listed = .loud j es) : j ∈ Region.ready .any ops listed ∧ (∀ e ∈ Region.ready .any ops listed, e = j ∨ (floats ops listed j e = true ∧ e ∈ es)) := by
  unfold pick at h
  split at h
  · cases h
  · split at h
    · cases h
    · split at h
      · rename_i j' hj'
        simp only [Pick.loud.injEq] at h
        obtain ⟨rfl, rfl⟩ := h
        have h1 := List.find?_some hj'
        refine ⟨List.mem_of_find?_eq_some hj', fun e he => ?_⟩
        have := List.all_eq_true.1 h1 e he
        simp only [Bool.or_eq_true] at this
        by_cases hej : e = j'
        · exact .inl hej
        · rcases this with h2 | h2
          · exact absurd (Nat.eq_of_beq_eq_true h2) hej
          · refine .inr ⟨h2, List.mem_filter.2 ⟨he, ?_⟩⟩
            cases hb : Nat.beq e j'
            · rfl
            · exact absurd (Nat.eq_of_beq_eq_true hb) hej
      · cases h
theorem floats_spec {listed : Array Bool} {j e : Nat} (h : floats ops listed j e = true) : (∃ o, ops[e]? = some o ∧ makes o = true) ∧ Region.free .any ops listed e = true ∧
    ∀ q oq, ops[q]? = some oq → listed.getD q true = false → q ≠ e → waits ops j ops.size q = true ∨ ∀ x ∈ oq.after, Region.binds .any x = true → x.on ≠ e := by
  simp only [floats, Bool.and_eq_true, makesAt] at h
  obtain ⟨⟨h1, h2⟩, h3⟩ := h
  refine ⟨?_, h2, fun q oq hq hu hne => ?_⟩
  · split at h1
    · rename_i o ho; exact ⟨o, ho, h1⟩
    · cases h1
  · have := List.all_eq_true.1 h3 q (List.mem_range.2 (Array.getElem?_eq_some_iff.1 hq).1)
    simp only [hu, hq, Bool.false_or, Bool.or_eq_true] at this
    rcases this with (h4 | h4) | h4
    · exact absurd (Nat.eq_of_beq_eq_true h4) hne
    · exact .inl h4
    · refine .inr fun x hx hb heq => ?_
      have := List.all_eq_true.1 h4 x (by simpa using hx)
      rw [hb, heq] at this
      simp at this

/-! The frame, with what was made early. -/
theorem extF_le {P : Program} {listed : Array Bool} {Es : List Early} (hE : EsOk P Φ ops listed a Es) {i : Nat} {x : Obj} (h : Φ.blk i = some x) : (extF Φ Es).blk i = some x := by
  simp only [extF]
  cases hf : Es.find? (fun e => e.b == i) with
  | none => exact h
  | some e =>
    have h1 := List.mem_of_find?_eq_some hf
    have h2 := List.find?_some hf
    simp only [beq_iff_eq] at h2
    rw [← h2, (hE.each e h1).2.2.2.2.2] at h; cases h
theorem Fr.ok_down {Φ Φ' : Fr} (h : ∀ i x, Φ.blk i = some x → Φ'.blk i = some x) (h1 : Φ.os = Φ'.os) (h2 : Φ.tape = Φ'.tape) (h3 : Φ.output = Φ'.output) (hk : Φ'.ok w) : Φ.ok w :=
  ⟨fun i x hx => hk.1 i x (h i x hx), by rw [h1]; exact hk.2.1, by rw [h2]; exact hk.2.2.1, by rw [h3]; exact hk.2.2.2⟩
theorem Inv.down {Φ Φ' : Fr} (h : ∀ i x, Φ.blk i = some x → Φ'.blk i = some x) (h1 : Φ.os = Φ'.os) (h2 : Φ.tape = Φ'.tape) (h3 : Φ.output = Φ'.output) {hh : H} (hi : Inv Φ' θ hh w) : Inv Φ θ hh w :=
  ⟨hi.rel, Fr.ok_down h h1 h2 h3 hi.fr, fun b L e => ⟨(hi.far b L e).1, by
    cases hb : Φ.blk L.blk with
    | none => rfl
    | some x => have := h _ _ hb; rw [(hi.far b L e).2] at this; cases this⟩, hi.apart, hi.next⟩
theorem extF_mem {P : Program} {listed : Array Bool} {Es : List Early} (hE : EsOk P Φ ops listed a Es) {e : Early} (he : e ∈ Es) : (extF Φ Es).blk e.b = some e.y := by
  simp only [extF]
  cases hf : Es.find? (fun e' => e'.b == e.b) with
  | none =>
    have := List.find?_eq_none.1 hf e he
    simp at this
  | some e' =>
    have h1 := List.mem_of_find?_eq_some hf
    have h2 := List.find?_some hf
    simp only [beq_iff_eq] at h2
    have : e' = e := by
      obtain ⟨l1, l2, rfl⟩ := List.append_of_mem he
      rcases List.mem_append.1 h1 with h1 | h1
      · have := (List.pairwise_append.1 hE.db).2.2 e' h1 e List.mem_cons_self
        exact absurd h2 this
      · rcases List.mem_cons.1 h1 with rfl | h1
        · rfl
        · have := (List.pairwise_cons.1 (List.pairwise_append.1 hE.db).2.1).1 e' h1
          exact absurd h2.symm this
    rw [this]

/-- What is known of the cuts. -/
def CsOk (P : Program) (θ : Th) (ops : Array Oper) (listed : Array Bool) (cuts : List (Nat × Cut)) (cs : List (Nat × (World → Prop))) : Prop :=
  ∀ c ∈ cs, (∃ (j : Nat) (oj : Oper), ops[j]? = some oj ∧ quiet P oj.op = false ∧ listed.getD j false = true ∧ waits ops c.1 ops.size j = true) ∨ (∀ w, c.2 w) ∨ ∃ cut, (c.1, cut) ∈ cuts ∧ CutP θ cut c.2
theorem CsOk.sl {P : Program} {listed listed' : Array Bool} {cuts : List (Nat × Cut)} {cs : List (Nat × (World → Prop))} (hc : CsOk P θ ops listed cuts cs) (hl : ∀ j, listed.getD j false = true → listed'.getD j false = true)
    (hh : ∀ c ∈ cuts, c.2.holds h = true) (hr : HRel θ h w) (hf : Φ.ok w) : SL P Φ ops cs listed' w :=
  ⟨hf, fun c hcc => by
    rcases hc c hcc with ⟨j, oj, h1, h2, h3, h4⟩ | h1 | ⟨cut, h1, h2⟩
    · exact .inl ⟨j, oj, h1, h2, hl j h3, h4⟩
    · exact .inr (h1 w)
    · exact .inr (h2 θ h w (Th.le_refl _) (hh _ h1) hr)⟩

/-- One operation of a drawn region, wanted or not. -/
theorem evStep_any (hk : k.Ok) {run : Run} (hr : RunOk k run) (hrd : run.rd = false) (hg : GRel k.gl Φ.blk) {j : Nat} (hj : ops[j]? = some o) {l : Outs} (hv : evStep k run ops o s = some l) (hS : SRel Φ θ s a w)
    {next : Act → World → Prop} {Q : Exit → Act → World → Prop} (hall : ∀ e a w, OutOk Φ θ l e a w → Exit.then next Q e a w) : wpOpIn Fence.wide 0 k.p ops Q j next a w := by
  unfold wpOpIn
  simp only [hj]
  have hF : FOk run.rd Fence.wide := .inl ⟨hrd, rfl⟩
  unfold evStep at hv
  split at hv
  · simp at hv
  · rename_i hw
    rw [wanted_sound hS hw]
    obtain ⟨s', h1, rfl⟩ := ok1_some hv
    refine ⟨fun f _ => trivial, ?_⟩
    exact hall .normal _ _ ⟨.normal, s', θ, List.mem_singleton.2 rfl, Th.le_refl _, rfl, put_sound h1 hS (conc_undef θ)⟩
  · rename_i hw
    rw [wanted_sound hS hw]
    exact evOp_sound hk hr hF hg hv hS hall
end Go.Proofs.YtnboghpebjciaaaGreatDoor.Ev

namespace Go.Proofs.YtnboghpebjciaaaGreatDoor.Ev
variable [Sym]
variable {k : K} {h h' : H} {s : S} {a : Act} {θ : Th} {w w' : World} {o : Oper} {Φ : Fr} {ops : Array Oper}

/-- A region's aim: no panic is let out. -/
def Qn (Q : Exit → Act → World → Prop) : Exit → Act → World → Prop := Exit.then (Q .normal) fun _ _ _ => False

theorem apart_of_ready {listed : Array Bool} {e q : Nat} {oe oq : Oper} (hf : FreeP ops listed e oe) (hu : listed.getD e true = false) (hq : ops[q]? = some oq) (hr : q ∈ Region.ready .any ops listed) (hne : q ≠ e) : oe.apart ops oq = true := by
  obtain ⟨h1, o, ho, hall⟩ := mem_ready.1 hr
  rw [hq] at ho; cases ho
  refine hf q oq hq hne h1 fun x hx hb heq => ?_
  have := hall x hx hb
  rw [heq, getD_ft hu] at this; cases this

/-- What was made early stays as it is, whatever comes that may come now. -/
theorem EsOk.step {P : Program} (hs : Region.noSelect ops = true) {listed : Array Bool} {Es : List Early} (hE : EsOk P Φ ops listed a Es) {j : Nat} {oj : Oper} (hj : ops[j]? = some oj) (hr : j ∈ Region.ready .any ops listed) (hne : ∀ e ∈ Es, e.i ≠ j)
    (ds : List Deferred) (u : Value) : EsOk P Φ ops (listed.setIfInBounds j true) (({ a with defers := ds } : Act).put oj.dst u) Es := by
  refine ⟨fun e he => ?_, hE.di, hE.db⟩
  obtain ⟨h1, h2, h3, h4, h5, h6⟩ := hE.each e he
  obtain ⟨_, _, a3⟩ := Oper.apart_spec (apart_of_ready h3 (mem_ready.1 h4).1 hj hr (Ne.symm (hne e he)))
  refine ⟨h1, h2, h3.set j, ready_mono h4 (hne e he), fun w => ?_, h6⟩
  rw [execOp_put e.o (fun cs b => Region.noSelect_spec hs e.i e.o cs b h1) _ oj.dst u a3]
  exact h5 w

theorem draw_main (hk : k.Ok) {run : Run} (hr : RunOk k run) (hrd : run.rd = false) (hg : GRel k.gl Φ.blk) (hs : Region.noSelect ops = true) {Q : Exit → Act → World → Prop} : ∀ (n : Nat) {listed : Array Bool} {cuts : List (Nat × Cut)} {s : S} {outs : Outs},
    evDraw k run ops n listed cuts s = some outs → ∀ {θ : Th} {aB : Act} {cs : List (Nat × (World → Prop))} {Es : List Early} {w : World} {fuel : Nat}, Closed ops listed → EsOk k.p Φ ops listed aB Es → SRel (extF Φ Es) θ s aB w →
      CsOk k.p θ ops listed cuts cs → (∀ c ∈ cuts, c.2.holds s.h = true) → unl ops (mark listed Es) ≤ fuel → (∀ e a w, OutOk Φ θ outs e a w → Q e a w) →
      wpAnyL k.p ops (Qn Q) (SL k.p Φ ops cs) fuel (mark listed Es) (putsE aB Es) w := by
  have hQn : ∀ c a w, ¬ Qn Q (.panic c) a w := fun _ _ _ h => h
  have hgE : ∀ {listed : Array Bool} {a : Act} {Es : List Early}, EsOk k.p Φ ops listed a Es → GRel k.gl (extF Φ Es).blk := fun hE g xs e => by
    obtain ⟨arr, el, fz, h1, h2⟩ := hg g xs e
    exact ⟨arr, el, fz, extF_le hE h1, h2⟩
  have hok : ∀ {listed : Array Bool} {a : Act} {Es : List Early} {w : World}, EsOk k.p Φ ops listed a Es → (extF Φ Es).ok w → Φ.ok w := fun hE h =>
    Fr.ok_down (fun i x hx => extF_le hE hx) rfl rfl rfl h
  intro n
  induction n with
  | zero =>
    intro listed cuts s outs hv θ aB cs Es w fuel hcl hE hS hcs hcu hfu hQ
    rw [evDraw.eq_def] at hv
    cases hp : pick k.p ops listed <;> simp only [hp] at hv
    case stuck => cases hv
    case done =>
      have hrd := pick_done hp
      have hnil : Es = [] := by
        cases Es with
        | nil => rfl
        | cons e Es => have := (hE.each e List.mem_cons_self).2.2.2.1; rw [hrd] at this; cases this
      subst hnil
      simp only [Option.some.injEq] at hv; subst hv
      have hq : Q .normal aB w := hQ _ _ _ ⟨.normal, s, θ, List.mem_singleton.2 rfl, Th.le_refl _, rfl, hS⟩
      cases fuel with
      | zero => exact ⟨hrd, hq⟩
      | succ m => exact ⟨fun _ => hq, fun i hi => by rw [show mark listed [] = listed from rfl, hrd] at hi; cases hi⟩
    all_goals cases hv
  | succ n ih =>
    intro listed cuts s outs hv θ aB cs Es w fuel hcl hE hS hcs hcu hfu hQ
    rw [evDraw.eq_def] at hv
    cases hp : pick k.p ops listed <;> simp only [hp] at hv
    case stuck => cases hv
    case done =>
      have hrd := pick_done hp
      have hnil : Es = [] := by
        cases Es with
        | nil => rfl
        | cons e Es => have := (hE.each e List.mem_cons_self).2.2.2.1; rw [hrd] at this; cases this
      subst hnil
      simp only [Option.some.injEq] at hv; subst hv
      have hq : Q .normal aB w := hQ _ _ _ ⟨.normal, s, θ, List.mem_singleton.2 rfl, Th.le_refl _, rfl, hS⟩
      cases fuel with
      | zero => exact ⟨hrd, hq⟩
      | succ m => exact ⟨fun _ => hq, fun i hi => by rw [show mark listed [] = listed from rfl, hrd] at hi; cases hi⟩
    case quiet i =>
      obtain ⟨hir, oi, hoi, hqi, hfi⟩ := pick_quiet hp
      simp only [hoi] at hv
      have hiun := (mem_ready.1 hir).1
      have hne : ∀ e ∈ Es, e.i ≠ i := fun e he hc => by
        obtain ⟨h1, h2, _⟩ := hE.each e he
        rw [hc, hoi] at h1; cases h1
        rw [makes_loud h2] at hqi; cases hqi
      have hfree : FreeP ops listed i oi := Region.free_spec hoi hfi
      have hap : ∀ e ∈ Es, e.o.apart ops oi = true := fun e he => by
        obtain ⟨h1, h2, h3, h4, _⟩ := hE.each e he
        exact apart_of_ready h3 (mem_ready.1 h4).1 hoi hir (Ne.symm (hne e he))
      have hmu : (mark listed Es).getD i true = false := by rw [mark_ne true hne]; exact hiun
      have hilt := (ready_lt hir).1
      obtain ⟨hex, hwa⟩ := exec_putsE (a := aB) hs hoi fun e he => (Oper.apart_spec (hap e he)).1
      have hpc : ∀ v, putsE (aB.put oi.dst v) Es = (putsE aB Es).put oi.dst v := fun v => putsE_put fun e he t ht hc => (Oper.apart_spec (hap e he)).2.1 t hc ht
      obtain ⟨m, rfl⟩ : ∃ m, fuel = m + 1 := ⟨fuel - 1, by have := unl_set hilt hmu; omega⟩
      have hfu' : unl ops (mark (listed.setIfInBounds i true) Es) ≤ m := by rw [mark_set hne]; have := unl_set hilt hmu; omega
      have hfr : Φ.ok w := hok hE hS.inv.fr
      have hSL : SL k.p Φ ops cs (mark listed Es) w := hcs.sl (fun j hj => mark_le hj) hcu hS.inv.rel hfr
      have fin : ∀ {p : World → Prop} {s' : S} {v : V} {x : Value} {cuts' : List (Nat × Cut)}, s.put oi.dst v = some s' → conc θ v = some x → YieldsIf k.p ops (fun w => Φ.ok w ∧ p w) oi x (putsE aB Es) → p w →
          evDraw k run ops n (listed.setIfInBounds i true) cuts' s' = some outs → CsOk k.p θ ops (listed.setIfInBounds i true) cuts' ((i, p) :: cs) → (∀ c ∈ cuts', c.2.holds s'.h = true) →
          wpAnyL k.p ops (Qn Q) (SL k.p Φ ops cs) (m + 1) (mark listed Es) (putsE aB Es) w := fun {p s' v x cuts'} h1 h2 h3 h4 h5 h6 h7 => by
        refine any_first hoi hqi hs hQn m (mark listed Es) (putsE aB Es) w (free_mark hfree) (ready_mark hne hir) (closed_mark hcl (fun e he => (hE.each e he).2.2.2.1) hE.di) h3 hSL h4 ?_
        rw [← hpc x, ← mark_set hne]
        exact ih h5 (hcl.set hir) (hE.step hs hoi hir hne aB.defers x) (put_sound h1 hS h2) h6 h7 hfu' hQ
      have hcs' : ∀ (p : World → Prop) (cuts' : List (Nat × Cut)), (∀ c ∈ cuts, c ∈ cuts') → ((∀ w, p w) ∨ ∃ cut, (i, cut) ∈ cuts' ∧ CutP θ cut p) → CsOk k.p θ ops (listed.setIfInBounds i true) cuts' ((i, p) :: cs) := by
        intro p cuts' hsub hp c hc
        rcases List.mem_cons.1 hc with rfl | hc
        · exact .inr hp
        · rcases hcs c hc with ⟨j, oj, h1, h2, h3, h4⟩ | h1 | ⟨cut, h1, h2⟩
          · exact .inl ⟨j, oj, h1, h2, getD_set_true h3, h4⟩
          · exact .inr (.inl h1)
          · exact .inr (.inr ⟨cut, hsub _ h1, h2⟩)
      split at hv
      · simp at hv
      · rename_i hw
        split at hv
        · rename_i s' hs'
          have hh : s'.h = s.h := by
            unfold S.put at hs'
            split at hs'
            · simp only [Option.some.injEq] at hs'; subst hs'; rfl
            · replace hs' := (bif_some hs').2
              simp only [Option.some.injEq] at hs'; subst hs'; rfl
          refine fin (p := fun _ => True) hs' (conc_undef θ) (.inr ⟨by rw [hwa]; exact wanted_sound hS hw, rfl⟩) trivial hv (hcs' _ _ (fun _ h => h) (.inl fun _ => trivial)) (by rw [hh]; exact hcu)
        · simp at hv
      · rename_i hw
        have hholds := (bif_some hv).1
        replace hv := (bif_some hv).2
        split at hv
        · rename_i v hvq
          split at hv
          · rename_i s' hs'
            have hh : s'.h = s.h := by
              unfold S.put at hs'
              split at hs'
              · simp only [Option.some.injEq] at hs'; subst hs'; rfl
              · replace hs' := (bif_some hs').2
                simp only [Option.some.injEq] at hs'; subst hs'; rfl
            have hrel := Cut.rel hholds hS.inv.rel s.h.n
            obtain ⟨x, hx, hx'⟩ := evQ_sound (o := oi) hS.ops hrel (hS.inv.grel (hgE hE)) hvq
            refine fin (p := fun w => HRel θ ((cutOf k s oi).heap s.h.n) w) hs' hx' (.inl ⟨by rw [hwa]; exact wanted_sound hS hw, fun w1 hw1 => ?_⟩) hrel hv (hcs' _ _ (fun _ h => List.mem_cons_of_mem _ h) (.inr ⟨_, List.mem_cons_self, cutP_of hholds hS.inv.rel⟩)) (by
              rw [hh]; intro c hc
              rcases List.mem_cons.1 hc with rfl | hc
              · exact hholds
              · exact hcu c hc)
            have hg1 : GRel k.gl fun i => w1.heap[i]? := fun g xs e => by
              obtain ⟨arr, el, fz, q1, q2⟩ := hg g xs e
              exact ⟨arr, el, fz, hw1.1.1 _ _ q1, q2⟩
            obtain ⟨y, hy, hy'⟩ := evQ_sound (o := oi) hS.ops hw1.2 hg1 hvq
            rw [hx'] at hy'; cases hy'
            rw [hex]; exact hy
          · simp at hv
        · simp at hv
    case loud j es =>
      obtain ⟨hjr, hall⟩ := pick_loud hp
      have hjun := (mem_ready.1 hjr).1
      obtain ⟨oj, hoj⟩ : ∃ oj, ops[j]? = some oj := by obtain ⟨_, o, ho, _⟩ := mem_ready.1 hjr; exact ⟨o, ho⟩
      simp only [hoj] at hv
      have hcan := (bif_none hv).1
      replace hv := (bif_none hv).2
      simp only [Bool.not_eq_false'] at hcan
      split at hv
      case h_2 => simp at hv
      rename_i l hl
      have hnorm := (bif_some hv).1
      replace hv := (bif_some hv).2
      have hnorm : ∀ x s', (x, s') ∈ l → x = .normal := fun x s' hm => by
        have := List.all_eq_true.1 hnorm _ hm
        simp only [isNormal] at this
        cases x <;> simp_all
      -- what follows, from an end of the operation
      have next : ∀ {s' : S} {θ' : Th} {a' : Act} {w' : World} {Es' : List Early} {fuel' : Nat}, (X.normal, s') ∈ l → θ.le θ' → SRel (extF Φ Es') θ' s' a' w' → EsOk k.p Φ ops (listed.setIfInBounds j true) a' Es' →
          unl ops (mark (listed.setIfInBounds j true) Es') ≤ fuel' →
          SL k.p Φ ops cs (mark (listed.setIfInBounds j true) Es') w' ∧ wpAnyL k.p ops (Qn Q) (SL k.p Φ ops cs) fuel' (mark (listed.setIfInBounds j true) Es') (putsE a' Es') w' := by
        intro s' θ' a' w' Es' fuel' hm hle hS' hE' hfu'
        obtain ⟨o2, hf, hsub⟩ := (goOn_spec hv .normal s' hm).1 rfl
        have hheld := (bif_some hf).1
        replace hf := (bif_some hf).2
        have hheld := List.all_eq_true.1 hheld
        have hcs2 : CsOk k.p θ' ops (listed.setIfInBounds j true) (heldBy k ops oj cuts j) cs := by
          intro c hc
          rcases hcs c hc with ⟨j', oj', h1, h2, h3, h4⟩ | h1 | ⟨cut, h1, h2⟩
          · exact .inl ⟨j', oj', h1, h2, getD_set_true h3, h4⟩
          · exact .inr (.inl h1)
          · by_cases hq : quiet k.p oj.op = true
            · exact .inr (.inr ⟨cut, by simp only [heldBy, hq, cond_true]; exact h1, h2.le hle⟩)
            · have hq : quiet k.p oj.op = false := by simpa using hq
              cases hw : waits ops c.1 ops.size j with
              | true => exact .inl ⟨j, oj, hoj, hq, getD_set_self hjun, hw⟩
              | false => exact .inr (.inr ⟨cut, by simp only [heldBy, hq, cond_false, held]; exact List.mem_filter.2 ⟨h1, by simp [hw]⟩, h2.le hle⟩)
        exact ⟨hcs2.sl (fun q hq => mark_le hq) hheld hS'.inv.rel (hok hE' hS'.inv.fr), ih hf (hcl.set hjr) hE' hS' hcs2 hheld hfu' fun e a w ho => hQ e a w ((ho.sub hsub).le hle)⟩
      by_cases hin : ∃ e ∈ Es, e.i = j
      · -- made already
        obtain ⟨e, he, hei⟩ := hin
        obtain ⟨h1, h2, h3, h4, h5, h6⟩ := hE.each e he
        rw [hei, hoj] at h1; cases h1
        obtain ⟨l1, l2, hEs⟩ := List.append_of_mem he
        have hdi := hE.di
        have hdb := hE.db
        rw [hEs] at hdi hdb
        have hne : ∀ e' ∈ l1 ++ l2, e'.i ≠ j ∧ e'.b ≠ e.b ∧ e' ∈ Es := fun e' he' => by
          rcases List.mem_append.1 he' with he' | he'
          · exact ⟨hei ▸ (List.pairwise_append.1 hdi).2.2 e' he' e List.mem_cons_self, (List.pairwise_append.1 hdb).2.2 e' he' e List.mem_cons_self, by rw [hEs]; exact List.mem_append_left _ he'⟩
          · exact ⟨hei ▸ Ne.symm ((List.pairwise_cons.1 (List.pairwise_append.1 hdi).2.1).1 e' he'), Ne.symm ((List.pairwise_cons.1 (List.pairwise_append.1 hdb).2.1).1 e' he'), by rw [hEs]; exact List.mem_append_right _ (List.mem_cons_of_mem _ he')⟩
        have hsubl : (l1 ++ l2).Sublist (l1 ++ e :: l2) := List.Sublist.append_left (List.sublist_cons_self e l2) l1
        have hE0 : EsOk k.p Φ ops listed aB (l1 ++ l2) := ⟨fun e' he' => hE.each e' (hne e' he').2.2, hdi.sublist hsubl, hdb.sublist hsubl⟩
        -- the abstract makes it now
        have hg0 := (makes_spec h2).1
        have hl2 := hl
        simp only [evStep, wantedV, hg0] at hl2
        simp only [evOp, makes_loud h2, cond_false] at hl2
        cases hev : evL k s e.o with
        | none => rw [hev] at hl2; simp at hl2
        | some r =>
          obtain ⟨v, oo, y, f, rfl, m1, m2⟩ := mk_sound h2 hS.ops hev
          obtain ⟨m3, m4⟩ := m1.unique h5 e.b
          subst m4
          rw [hev] at hl2
          simp only at hl2
          obtain ⟨s', hs', rfl⟩ := ok1_some hl2
          have hx : (extF Φ Es).blk e.b = some e.y := extF_mem hE he
          have hΦ : ∀ i x, (extF Φ (l1 ++ l2)).blk i = some x → (extF Φ Es).blk i = some x := fun i x hx => by
            simp only [extF] at hx
            cases hf : (l1 ++ l2).find? (fun e => e.b == i) with
            | none => rw [hf] at hx; exact extF_le hE hx
            | some e' =>
              rw [hf] at hx
              simp only [Option.some.injEq] at hx; subst hx
              have g1 := List.mem_of_find?_eq_some hf
              have g2 := List.find?_some hf
              simp only [beq_iff_eq] at g2
              rw [← g2]; exact extF_mem hE (hne e' g1).2.2
          have hbn : (extF Φ (l1 ++ l2)).blk e.b = none := by
            simp only [extF]
            cases hf : (l1 ++ l2).find? (fun e' => e'.b == e.b) with
            | none => exact h6
            | some e' =>
              have g1 := List.mem_of_find?_eq_some hf
              have g2 := List.find?_some hf
              simp only [beq_iff_eq] at g2
              exact absurd g2 (hne e' g1).2.1
          have hi0 : Inv (extF Φ (l1 ++ l2)) θ s.h w := hS.inv.down hΦ rfl rfl rfl
          have hwy : w.heap[e.b]? = some e.y := hS.inv.fr.1 _ _ hx
          let L : Loc := ⟨e.b, 0, 0⟩
          have hle : θ.le (θ.ins s.h.n L) := Th.le_ins (hS.inv.next _ (Nat.le_refl _))
          obtain ⟨c1, c2⟩ := m2 (θ.ins s.h.n L) e.b (Th.ins_self _ _ _)
          have hi1 : Inv (extF Φ (l1 ++ l2)) (θ.ins s.h.n L) (s.h.add oo) w :=
            hi0.take (Array.getElem?_eq_some_iff.1 hwy).1 hbn (fun b o' L' _ e' hc => by
              have := (hS.inv.far b L' e').2
              rw [hc, show L.blk = e.b from rfl, hx] at this; cases this) (c2 w hwy)
          have hS' : SRel (extF Φ (l1 ++ l2)) (θ.ins s.h.n L) s' (aB.put e.o.dst (f e.b)) w := put_sound hs' ⟨hS.tmps.le hle, hS.defs.le hle, hi1⟩ c1
          have hstep := hE0.step hs hoj hjr (fun e' he' => (hne e' he').1) aB.defers (f e.b)
          have hmark : mark (listed.setIfInBounds j true) (l1 ++ l2) = mark listed Es := by
            rw [hEs, mark_append, mark_append, mark_set fun e' he' => (hne e' (List.mem_append_left _ he')).1]
            show _ = mark ((mark listed l1).setIfInBounds e.i true) l2
            rw [hei]
          have hputs : putsE (aB.put e.o.dst (f e.b)) (l1 ++ l2) = putsE aB Es := by
            rw [hEs, putsE_append, putsE_append]
            have hap : ∀ e' ∈ l1, ∀ t, e.o.dst = some t → e'.o.dst ≠ some t := fun e' he' t ht hc => by
              obtain ⟨q1, q2, q3, q4, _⟩ := hE.each e' (hne e' (List.mem_append_left _ he')).2.2
              have := (Oper.apart_spec (apart_of_ready q3 (mem_ready.1 q4).1 hoj hjr (Ne.symm (hne e' (List.mem_append_left _ he')).1))).2.1 t hc
              exact this ht
            rw [putsE_put hap]
            show _ = putsE ((putsE aB l1).put e.o.dst (e.f e.b)) l2
            rw [m3]
          have := (next (List.mem_singleton.2 rfl) hle hS' hstep (by rw [hmark]; exact hfu)).2
          rw [hmark, hputs] at this
          exact this
      · -- not yet
        have hinner : ∀ (fuel : Nat) {Es : List Early} {w : World}, EsOk k.p Φ ops listed aB Es → SRel (extF Φ Es) θ s aB w → (∀ e ∈ Es, e.i ≠ j) → unl ops (mark listed Es) ≤ fuel →
            wpAnyL k.p ops (Qn Q) (SL k.p Φ ops cs) fuel (mark listed Es) (putsE aB Es) w := by
          intro fuel
          induction fuel with
          | zero =>
            intro Es w hE hS hne hfu
            have hju : (mark listed Es).getD j true = false := by rw [mark_ne true hne]; exact hjun
            have := unl_set (ready_lt hjr).1 hju
            omega
          | succ m ihm =>
            intro Es w hE hS hne hfu
            have hclm : Closed ops (mark listed Es) := closed_mark hcl (fun e he => (hE.each e he).2.2.2.1) hE.di
            have hju : (mark listed Es).getD j true = false := by rw [mark_ne true hne]; exact hjun
            have hjm := ready_mark hne hjr
            refine ⟨fun h => (by rw [h] at hjm; cases hjm), fun q hq => ?_⟩
            obtain ⟨hqu, oq, hoq, hqall⟩ := mem_ready.1 hq
            have hqne : ∀ e ∈ Es, e.i ≠ q := fun e he hc => by
              have := getD_tf (mark_mem he (mem_ready.1 (hE.each e he).2.2.2.1).1)
              rw [hc, hqu] at this; cases this
            have hqun : listed.getD q true = false := by rw [mark_ne true hqne] at hqu; exact hqu
            by_cases hqj : q = j
            · -- the one that the evaluator takes
              subst hqj
              have hap : ∀ e ∈ Es, e.o.apart ops oj = true := fun e he => by
                obtain ⟨h1, h2, h3, h4, _⟩ := hE.each e he
                exact apart_of_ready h3 (mem_ready.1 h4).1 hoj hjr (Ne.symm (hne e he))
              refine beside_all hs hQn hoj hap ?_
              have h1 : wpOpIn Fence.wide 0 k.p ops (Qn Q) q (fun a' w' => ∃ s' θ', (X.normal, s') ∈ l ∧ θ.le θ' ∧ SRel (extF Φ Es) θ' s' a' w') aB w := by
                refine evStep_any hk hr hrd (hgE hE) hoj hl hS fun e a' w' hO => ?_
                obtain ⟨x, s', θ', hm, hle, hx, hS'⟩ := hO
                have := hnorm x s' hm
                subst this
                cases hx
                exact ⟨s', θ', hm, hle, hS'⟩
              refine wpOpIn_mono ?_ (wpOpIn_shape hoj h1)
              rintro a' w' ⟨⟨ds, u, rfl⟩, s', θ', hm, hle, hS'⟩
              rw [← mark_set hne]
              exact next hm hle hS' (hE.step hs hoj hjr hne ds u) (by rw [mark_set hne]; have := unl_set (ready_lt hjr).1 hju; omega)
            · -- one that floats
              have hqr : q ∈ Region.ready .any ops listed := by
                refine mem_ready.2 ⟨hqun, oq, hoq, fun x hx hb => ?_⟩
                have hxl := hqall x hx hb
                by_cases hxe : ∃ e ∈ Es, e.i = x.on
                · obtain ⟨e, he, hei⟩ := hxe
                  obtain ⟨h1, h2, h3, h4, _⟩ := hE.each e he
                  rcases hall e.i h4 with hc | ⟨hfl, _⟩
                  · exact absurd hc (hne e he)
                  · rcases (floats_spec hfl).2.2 q oq hoq hqun (Ne.symm (hqne e he)) with hw | hw
                    · have := ready_waits hclm hq hw
                      rw [getD_ft hju] at this; cases this
                    · exact absurd hei.symm (hw x hx hb)
                · rw [mark_ne false fun e he hc => hxe ⟨e, he, hc⟩] at hxl; exact hxl
              rcases hall q hqr with hc | ⟨hfl, hqes⟩
              · exact absurd hc hqj
              obtain ⟨⟨oq', hoq', hmk⟩, hfree, _⟩ := floats_spec hfl
              rw [hoq] at hoq'; cases hoq'
              have hcanq := List.all_eq_true.1 hcan q hqes
              simp only [canE, hoq] at hcanq
              cases hev : evL k s oq with
              | none => rw [hev] at hcanq; cases hcanq
              | some r =>
                obtain ⟨v, oo, y, f, rfl, m1, m2⟩ := mk_sound hmk hS.ops hev
                have hap : ∀ e ∈ Es, e.o.apart ops oq = true := fun e he => by
                  obtain ⟨h1, h2, h3, h4, _⟩ := hE.each e he
                  exact apart_of_ready h3 (mem_ready.1 h4).1 hoq hqr (Ne.symm (hqne e he))
                obtain ⟨hex, _⟩ := exec_putsE (a := aB) hs hoq fun e he => (Oper.apart_spec (hap e he)).1
                let E1 : Early := ⟨q, oq, f, y, w.heap.size⟩
                have hfrw : Φ.ok w := hok hE hS.inv.fr
                have hE1 : EsOk k.p Φ ops listed aB (Es ++ [E1]) := by
                  refine ⟨fun e he => ?_, ?_, ?_⟩
                  · rcases List.mem_append.1 he with he | he
                    · exact hE.each e he
                    · rw [List.mem_singleton] at he; subst he
                      exact ⟨hoq, hmk, Region.free_spec hoq hfree, hqr, m1, Fr.none_new hfrw⟩
                  · refine List.pairwise_append.2 ⟨hE.di, by simp, fun e he e' he' => ?_⟩
                    rw [List.mem_singleton] at he'; subst he'
                    exact hqne e he
                  · refine List.pairwise_append.2 ⟨hE.db, by simp, fun e he e' he' => ?_⟩
                    rw [List.mem_singleton] at he'; subst he'
                    have := hS.inv.fr.1 _ _ (extF_mem hE he)
                    have := (Array.getElem?_eq_some_iff.1 this).1
                    show e.b ≠ w.heap.size
                    omega
                have hfind : ∀ i, (extF Φ (Es ++ [E1])).blk i = if i = w.heap.size then some y else (extF Φ Es).blk i := fun i => by
                  by_cases hi : i = w.heap.size
                  · rw [if_pos hi, hi]
                    exact extF_mem hE1 (e := E1) (List.mem_append_right _ (List.mem_singleton.2 rfl))
                  · rw [if_neg hi]
                    simp only [extF, List.find?_append]
                    cases Es.find? (fun e => e.b == i) with
                    | some e => rfl
                    | none =>
                      have : ([E1].find? fun e => e.b == i) = none := by
                        rw [List.find?_eq_none]
                        intro x hx
                        rw [List.mem_singleton] at hx; subst hx
                        simpa [E1] using Ne.symm hi
                      rw [this]; rfl
                have hi1 := hS.inv.alloc y
                have hi2 : Inv (extF Φ (Es ++ [E1])) θ s.h (w.alloc y) := by
                  refine ⟨hi1.rel, ⟨fun i x hx => ?_, hi1.fr.2.1, hi1.fr.2.2.1, hi1.fr.2.2.2⟩, fun b L e => ⟨(hi1.far b L e).1, ?_⟩, hi1.apart, hi1.next⟩
                  · rw [hfind] at hx
                    by_cases hi : i = w.heap.size
                    · rw [if_pos hi] at hx; cases hx; rw [hi]; exact heap_new w y
                    · rw [if_neg hi] at hx; exact hi1.fr.1 _ _ hx
                  · rw [hfind, if_neg (by have := (hS.inv.far b L e).1; omega)]
                    exact (hi1.far b L e).2
                have hS1 : SRel (extF Φ (Es ++ [E1])) θ s aB (w.alloc y) := ⟨hS.tmps, hS.defs, hi2⟩
                have hm1 : mark listed (Es ++ [E1]) = (mark listed Es).setIfInBounds q true := by rw [mark_append]; rfl
                have hp1 : putsE aB (Es ++ [E1]) = (putsE aB Es).put oq.dst (f w.heap.size) := by rw [putsE_append]; rfl
                unfold wpOpIn
                simp only [hoq]
                have hwant : Region.wanted oq (yielded ops (putsE aB Es).tmps) = true := by simp [Region.wanted, (makes_spec hmk).1]
                simp only [hwant, if_true]
                refine ⟨fun _ _ => trivial, ?_⟩
                rw [show Fence.wide.round = none from rfl, Oper.semAt_none, hex, m1 w]
                show SL k.p Φ ops cs _ (w.alloc y) ∧ wpAnyL k.p ops (Qn Q) (SL k.p Φ ops cs) m _ ((putsE aB Es).put oq.dst (f w.heap.size)) (w.alloc y)
                rw [← hm1, ← hp1]
                refine ⟨hcs.sl (fun j hj => mark_le hj) hcu hi2.rel (hok hE1 hi2.fr), ihm hE1 hS1 (fun e he => ?_) ?_⟩
                · rcases List.mem_append.1 he with he | he
                  · exact hne e he
                  · rw [List.mem_singleton] at he; subst he; exact hqj
                · rw [hm1]; have := unl_set (Array.getElem?_eq_some_iff.1 hoq).1 hqu; omega
        exact hinner fuel hE hS (fun e he hc => hin ⟨e, he, hc⟩) hfu

theorem draw_sound (hk : k.Ok) (hm : k.p.follows .mixedOrders = true) : ∀ run, RunOk k run → DrawOk k run := by
  intro run hr ops id s outs hrd hs hv Φ θ a w Q hg hS hQ
  refine wpIn_mono (Q := Qn Q) (wpIn_region_any hm (wpAnyIn_of_L (S := SL k.p Φ ops []) _ _ _ _ ?_)) fun e a w h => by
    cases e with
    | normal => exact h
    | _ => exact h.elim
  have hS' : SRel (extF Φ []) θ s a { w with drawn := w.drawn + 1 } := ⟨hS.tmps, hS.defs, hS.inv.drew⟩
  have hcl : Closed ops (Array.replicate ops.size false) := fun j oj hj hl => by
    rcases Nat.lt_or_ge j ops.size with h' | h'
    · simp [h'] at hl
    · simp [Nat.not_lt.2 h'] at hl
  have hu : unl ops (Array.replicate ops.size false) ≤ ops.size := by
    have := List.length_filter_le (fun i => !(Array.replicate ops.size false).getD i true) (List.range ops.size)
    simpa [unl] using this
  exact draw_main hk hr hrd hg hs ops.size hv (cs := []) (Es := []) hcl ⟨fun e he => by simp at he, List.Pairwise.nil, List.Pairwise.nil⟩ hS' (fun c hc => by simp at hc) (fun c hc => by simp at hc) hu hQ
end Go.Proofs.YtnboghpebjciaaaGreatDoor.Ev

namespace Go.Proofs.YtnboghpebjciaaaGreatDoor.Ev
/-- A closed call that is true. -/
def showsAt (k : K) (fuel : Nat) (f : FuncId) (args : List V) : Bool :=
  match callF k (code k fuel) f args start with
  | some l => l.all isTrue
  | none => false
/-- The cells of an argument, by their numbers. -/
def syms : Nat → Nat → List V
  | 0, _ => []
  | n + 1, i => .opq (.sym i) :: syms n (i + 1)
theorem concL_syms [Sym] {θ : Th} : ∀ (xs : List Value) (i : Nat), (∀ (j : Nat) x, xs[j]? = some x → Sym.ρ (i + j) = x) → concL θ (syms xs.length i) = some xs
  | [], i, _ => concL_nil θ
  | x :: xs, i, h => by
    have h0 := h 0 x (by simp)
    refine concL_cons.2 ⟨x, xs, by simp only [conc, Sy.get, Option.some.injEq]; exact h0, concL_syms xs (i + 1) fun j y hy => ?_, rfl⟩
    have := h (j + 1) y (by simpa using hy)
    rw [← this]; congr 1; omega
/-- The numbers of a row's cells. -/
@[reducible] def symOf (cs : Array Value) (h : ∀ (i : Nat) v, cs[i]? = some v → v.oneCell' = true) : Sym where
  ρ i := cs.getD i (.bool false)
  one i := by
    rw [Array.getD_eq_getD_getElem?]
    cases hc : cs[i]? with
    | none => rfl
    | some v => exact h i v hc

/-- **A closed call that the evaluator finds true is true of the machine**: whatever world it begins in, whatever the tape says. -/
theorem calls_at [Sym] {k : K} (hk : k.Ok) (ho : OrcOk k) (hm : k.p.follows .mixedOrders = true) {n : Nat} {f : FuncId} {args : List V} {xs : List Value} {w : World} (hg : GRel k.gl fun i => w.heap[i]?) (ha : concL (fun _ => none) args = some xs)
    (hs : showsAt k n f args = true) : Calls k.p f ⟨xs⟩ w fun e w' => e = .returned (.bool true) ∧ RowKit.Below w.heap.size w w' := by
  unfold showsAt at hs
  split at hs
  · rename_i l hl
    have := callF_sound (k := k) hk (fun fid c => code_sound hk ho (draw_sound hk hm) n false fid c) hl (Φ := frameOf w) (θ := fun _ => none) (w := w) (xs := xs) hg ha (inv_start w)
    refine callsIn_wide.1 (this.mono fun e w' he => ?_)
    have hall := List.all_eq_true.1 hs
    cases e with
    | returned x =>
      obtain ⟨v, h, θ', m1, m2, m3, m4⟩ := he
      have := hall _ m1
      simp only [isTrue] at this
      cases v <;> simp at this
      subst this
      rw [conc_bool m3]
      exact ⟨rfl, below_of m4⟩
    | panicked chain =>
      obtain ⟨v, h, θ', x, m1, _⟩ := he
      have := hall _ m1
      simp [isTrue] at this
    | outgrown => exact he.elim
  · cases hs
theorem OrcOk.none [Sym] {k : K} (h : ∀ f args h, k.orc f args h = none) : OrcOk k := fun {f args h' es} he => by rw [h] at he; cases he
/-- A run, as what is known of a call. -/
theorem orc_of_run [Sym] {k : K} (hk : k.Ok) (ho : OrcOk k) (hm : k.p.follows .mixedOrders = true) {n : Nat} {f : FuncId} {args : List V} {h : H} {es : List E}
    (hs : callF k (code k n) f args h = some es) : OrcOne k f args h es :=
  fun hg ha hi => callF_sound hk (fun fid c => code_sound hk ho (draw_sound hk hm) n false fid c) hs hg ha hi
/-- What one knows, another of the same program and the same variables knows. -/
theorem OrcOne.to [Sym] {k k' : K} (hp : k'.p = k.p) (hgl : k'.gl = k.gl) {f : FuncId} {args : List V} {h : H} {es : List E} (H : OrcOne k f args h es) : OrcOne k' f args h es := by
  intro Φ θ w xs hg ha hi
  rw [hp]
  exact H (by rw [← hgl]; exact hg) ha hi
/-- A listed row of small numbers, as the evaluator wants it. -/
theorem grel_row [Sym] {w : World} {g : Nat} {kk : IntKind} {zs : List Int} (hne : 0 < zs.length) (h : ∀ i, i < zs.length → w.cell? ⟨g, i, none⟩ = some (.int kk (zs.getD i 0))) :
    ∃ arr el fz, w.heap[g]? = some (.cells arr el fz) ∧ ∀ (i : Nat) v, (zs.map (V.int kk))[i]? = some v → ∃ x, (∀ θ, conc θ v = some x) ∧ arr[i]? = some x := by
  have h0 := h 0 hne
  cases hg : w.heap[g]? with
  | none => simp [World.cell?, hg] at h0
  | some o =>
    cases o with
    | cells arr el fz =>
      refine ⟨arr, el, fz, rfl, fun i v hv => ?_⟩
      rw [List.getElem?_map] at hv
      cases hz : zs[i]? with
      | none => simp [hz] at hv
      | some z =>
        simp only [hz, Option.map_some, Option.some.injEq] at hv
        subst hv
        have hi : i < zs.length := (List.getElem?_eq_some_iff.1 hz).1
        have hc := h i hi
        rw [cell_of hg] at hc
        refine ⟨.int kk z, fun θ => rfl, ?_⟩
        rw [hc, List.getD_eq_getElem?_getD, hz]; rfl
    | _ => simp [World.cell?, hg] at h0
/-- No cell of a row is a row. -/
theorem row_one {P : Program} {w : World} {r : Reach} {base : Nat} {t : TypeId} {cs : Array Value} (h : Row.okWide P w r base t cs) : ∀ (i : Nat) v, cs[i]? = some v → v.oneCell' = true := by
  obtain ⟨ts, _, _, hall⟩ := h
  intro i v hv
  obtain ⟨u, _, hc⟩ := hall i v hv
  cases v <;> first | rfl | (exfalso; revert hc; unfold Cell.okWide Cell.ok; intro hc; (repeat' split at hc) <;> simp_all)
end Go.Proofs.YtnboghpebjciaaaGreatDoor.Ev
