/-
  Walking a function's code step by step over an environment of its temporaries. Holds of every program.
-/
import Derived.WalkKit
import Derived.OrdersHeld
import Derived.Deep.Quiet
import Derived.Test.YthejfodjielahaaSep
namespace Go.Proofs.Ythejfodjielahaa
set_option maxRecDepth 8000
set_option linter.unusedSimpArgs false
set_option linter.unusedVariables false
open Go Go.RowKit

/-- What the temporaries are known to hold: the newest first. -/
abbrev Env := List (Nat × Value)
def Env.get : Env → Nat → Option Value
  | [], _ => none
  | (k, v) :: e, t => bif Nat.beq k t then some v else Env.get e t

structure Ok (n : Nat) (e : Env) (a : Act) : Prop where
  size : a.tmps.size = n
  defers : a.defers = []
  get : ∀ t v, e.get t = some v → a.tmps[t]? = some v

theorem Ok.put {n : Nat} {e : Env} {a : Act} (h : Ok n e a) {d : Nat} (hd : Nat.blt d n = true) (v : Value) : Ok n ((d, v) :: e) (a.put (some d) v) := by
  have hd' : d < n := by simpa [Nat.blt_eq] using hd
  refine ⟨by simp [Act.put, h.size], h.defers, fun t u ht => ?_⟩
  simp only [Act.put]
  simp only [Env.get] at ht
  by_cases e1 : d = t
  · subst e1
    simp at ht
    subst ht
    rw [Array.getElem?_setIfInBounds_self]
    simp [h.size, hd']
  · have hb : Nat.beq d t = false := by
      cases hh : Nat.beq d t with
      | false => rfl
      | true => exact absurd (Nat.eq_of_beq_eq_true hh) e1
    rw [hb] at ht
    rw [Array.getElem?_setIfInBounds_ne e1]
    exact h.get t u ht

theorem Ok.putNone {n : Nat} {e : Env} {a : Act} (h : Ok n e a) (v : Value) : Ok n e (a.put none v) := h

/-- What an operand is known to be. -/
def ev (e : Env) : Operand → Option Value
  | .tmp t => e.get t
  | .const v => some v
  | .global g => some (.pointer (some ⟨g, 0, none⟩))
  | .func f => some (.func (.func f) #[] #[])

theorem Ok.ev {n : Nat} {e : Env} {a : Act} (h : Ok n e a) {x : Operand} {v : Value} (hx : ev e x = some v) : a.eval x = v := by
  cases x with
  | tmp t =>
    have := h.get t v hx
    simp only [Act.eval, Array.getD_eq_getD_getElem?, this, Option.getD_some]
  | const u => simpa [Proofs.Ythejfodjielahaa.ev, Act.eval] using hx
  | global g => simpa [Proofs.Ythejfodjielahaa.ev, Act.eval] using hx
  | func f => simpa [Proofs.Ythejfodjielahaa.ev, Act.eval] using hx

/-- The call comes to one of R's ends. -/
def Ends (P : Program) (f : FuncId) (R : Ending → World → Prop) (k : List Item) (a : Act) (w : World) : Prop :=
  ∀ (b : Frame) (cs : List Frame), b.fn = f → b.kind = .normal →
    ∃ en w' fr, R en w' ∧ Comes P (lone (b.at a k) cs w) (lone fr cs w') en ∧ fr.fn = f ∧ fr.leaving P w' en

/-- What is left to be done is 'k'. -/
structure Run (P : Program) (f : FuncId) (n : Nat) (R : Ending → World → Prop) (k : List Item) (e : Env) (w : World) : Prop where
  go : ∀ a, Ok n e a → Ends P f R k a w

def QK (P : Program) (f : FuncId) (R : Ending → World → Prop) (k : List Item) : Exit → Act → World → Prop
  | .normal, a, w => Ends P f R k a w
  | .outgrown, _, w => R .outgrown w
  | _, _, _ => False

/-- Inside a region: the operations 'rest' are left, then 'k'. -/
structure RO (P : Program) (f : FuncId) (n : Nat) (R : Ending → World → Prop) (k : List Item) (ops : List Oper) (rest : List Oper) (e : Env) (w : World) : Prop where
  go : ∀ a, Ok n e a → wpList P ops.toArray (QK P f R k) rest a w

/-- What a call that returns leaves. -/
def Ret (Φ : Value → World → Prop) : Ending → World → Prop
  | .returned v, w => Φ v w
  | _, _ => False

/-- A call that returns. -/
structure Cl (P : Program) (g : FuncId) (args : List Value) (w : World) (Φ : Value → World → Prop) : Prop where
  go : Calls P g args.toArray w (Ret Φ)

theorem Cl.mono {P : Program} {g : FuncId} {args : List Value} {w : World} {Φ Ψ : Value → World → Prop} (h : Cl P g args w Φ) (hi : ∀ v w', Φ v w' → Ψ v w') : Cl P g args w Ψ :=
  ⟨h.go.mono fun en w' hr => by cases en with
    | returned v => exact hi v w' hr
    | _ => exact hr.elim⟩
theorem Cl.at {P : Program} {g : FuncId} {args : List Value} {w we : World} {ρ : List (Nat × Obj)} {A : HP} {σ F : List HP} {φ : Value → Prop} (h : Cl P g args w fun v w' => φ v ∧ St we ρ (A :: F) w') (ht : Take A σ F) :
    Cl P g args w fun v w' => φ v ∧ St we ρ σ w' := h.mono fun v w' ⟨h1, h2⟩ => ⟨h1, h2.untake ht⟩
theorem Cl.at2 {P : Program} {g : FuncId} {args : List Value} {w we : World} {ρ : List (Nat × Obj)} {A B : HP} {σ F F' : List HP} {φ : Value → Prop} (h : Cl P g args w fun v w' => φ v ∧ St we ρ (A :: B :: F') w') (ht : Take A σ F) (ht' : Take B F F') :
    Cl P g args w fun v w' => φ v ∧ St we ρ σ w' := h.mono fun v w' ⟨h1, h2⟩ => ⟨h1, h2.untake2 ht ht'⟩

def argEnv : Nat → List Value → Env
  | _, [] => []
  | i, v :: l => (i, v) :: argEnv (i + 1) l

theorem argEnv_get : ∀ (l : List Value) (i t : Nat) (v : Value), (argEnv i l).get t = some v → i ≤ t ∧ l[t - i]? = some v
  | [], _, _, _, h => by simp [argEnv, Env.get] at h
  | u :: l, i, t, v, h => by
    simp only [argEnv, Env.get] at h
    by_cases e : i = t
    · subst e; simp at h; subst h; simp
    · have hb : Nat.beq i t = false := by
        cases hh : Nat.beq i t with
        | false => rfl
        | true => exact absurd (Nat.eq_of_beq_eq_true hh) e
      rw [hb] at h
      have := argEnv_get l (i + 1) t v h
      refine ⟨by omega, ?_⟩
      rw [show t - i = (t - (i + 1)) + 1 by omega, List.getElem?_cons_succ]
      exact this.2

section
variable {P : Program} {f : FuncId} {n : Nat} {R : Ending → World → Prop} {k : List Item} {e : Env} {w : World}

theorem Run.calls {fn : Func} {c : Code} {args : List Value} {w : World} {R : Ending → World → Prop}
    (hf : P.funcs[f]? = some fn) (hb : fn.body = some c) (hn : fn.ntmps = n) (hs : Nat.ble args.length n = true)
    (h : Run P f n R [.code c] (argEnv 0 args) w) : Calls P f args.toArray w R := by
  intro cs
  have hs' : args.length ≤ n := by simpa using hs
  let b : Frame := { (default : Frame) with fn := f, kind := .normal }
  have henter : Frame.enter P f args.toArray .normal =
      b.at { tmps := args.toArray ++ Array.replicate (fn.ntmps - args.toArray.size) undef, defers := [] } [.code c] := by
    simp [Frame.enter, Frame.at, hf, hb, b]
  rw [henter]
  refine h.go _ ⟨by simp; omega, rfl, fun t v ht => ?_⟩ b cs rfl rfl
  have := argEnv_get args 0 t v ht
  simp only [Nat.sub_zero] at this
  have hlt : t < args.length := (List.getElem?_eq_some_iff.1 this.2).1
  rw [Array.getElem?_append_left (by simpa using hlt)]
  simpa using this.2

section
variable {fn : Func} {c : Code} {w : World} {Φ : Value → World → Prop} {v0 v1 v2 v3 v4 v5 v6 v7 : Value}
theorem Run.calls0 (hf : P.funcs[f]? = some fn) (hb : fn.body = some c) (hn : fn.ntmps = n) (h : Run P f n (Ret Φ) [.code c] [] w) : Cl P f [] w Φ := ⟨Run.calls (args := []) hf hb hn (by simp) h⟩
theorem Run.calls1 (hf : P.funcs[f]? = some fn) (hb : fn.body = some c) (hn : fn.ntmps = n) (hs : Nat.ble 1 n = true) (h : Run P f n (Ret Φ) [.code c] [(0, v0)] w) : Cl P f [v0] w Φ := ⟨Run.calls (args := [v0]) hf hb hn hs h⟩
theorem Run.calls2 (hf : P.funcs[f]? = some fn) (hb : fn.body = some c) (hn : fn.ntmps = n) (hs : Nat.ble 2 n = true) (h : Run P f n (Ret Φ) [.code c] [(0, v0), (1, v1)] w) : Cl P f [v0, v1] w Φ := ⟨Run.calls (args := [v0, v1]) hf hb hn hs h⟩
theorem Run.calls3 (hf : P.funcs[f]? = some fn) (hb : fn.body = some c) (hn : fn.ntmps = n) (hs : Nat.ble 3 n = true) (h : Run P f n (Ret Φ) [.code c] [(0, v0), (1, v1), (2, v2)] w) : Cl P f [v0, v1, v2] w Φ := ⟨Run.calls (args := [v0, v1, v2]) hf hb hn hs h⟩
theorem Run.calls4 (hf : P.funcs[f]? = some fn) (hb : fn.body = some c) (hn : fn.ntmps = n) (hs : Nat.ble 4 n = true) (h : Run P f n (Ret Φ) [.code c] [(0, v0), (1, v1), (2, v2), (3, v3)] w) : Cl P f [v0, v1, v2, v3] w Φ := ⟨Run.calls (args := [v0, v1, v2, v3]) hf hb hn hs h⟩
theorem Run.calls5 (hf : P.funcs[f]? = some fn) (hb : fn.body = some c) (hn : fn.ntmps = n) (hs : Nat.ble 5 n = true) (h : Run P f n (Ret Φ) [.code c] [(0, v0), (1, v1), (2, v2), (3, v3), (4, v4)] w) : Cl P f [v0, v1, v2, v3, v4] w Φ := ⟨Run.calls (args := [v0, v1, v2, v3, v4]) hf hb hn hs h⟩
theorem Run.calls6 (hf : P.funcs[f]? = some fn) (hb : fn.body = some c) (hn : fn.ntmps = n) (hs : Nat.ble 6 n = true) (h : Run P f n (Ret Φ) [.code c] [(0, v0), (1, v1), (2, v2), (3, v3), (4, v4), (5, v5)] w) : Cl P f [v0, v1, v2, v3, v4, v5] w Φ := ⟨Run.calls (args := [v0, v1, v2, v3, v4, v5]) hf hb hn hs h⟩
theorem Run.calls7 (hf : P.funcs[f]? = some fn) (hb : fn.body = some c) (hn : fn.ntmps = n) (hs : Nat.ble 7 n = true) (h : Run P f n (Ret Φ) [.code c] [(0, v0), (1, v1), (2, v2), (3, v3), (4, v4), (5, v5), (6, v6)] w) : Cl P f [v0, v1, v2, v3, v4, v5, v6] w Φ := ⟨Run.calls (args := [v0, v1, v2, v3, v4, v5, v6]) hf hb hn hs h⟩
theorem Run.calls8 (hf : P.funcs[f]? = some fn) (hb : fn.body = some c) (hn : fn.ntmps = n) (hs : Nat.ble 8 n = true) (h : Run P f n (Ret Φ) [.code c] [(0, v0), (1, v1), (2, v2), (3, v3), (4, v4), (5, v5), (6, v6), (7, v7)] w) : Cl P f [v0, v1, v2, v3, v4, v5, v6, v7] w Φ := ⟨Run.calls (args := [v0, v1, v2, v3, v4, v5, v6, v7]) hf hb hn hs h⟩
end

theorem Ends.of_step {a a' : Act} {k' : List Item} {w' : World} (hs : ∀ (b : Frame) (cs : List Frame), step P (lone (b.at a k) cs w) = .next (lone (b.at a' k') cs w')) (h : Ends P f R k' a' w') : Ends P f R k a w := by
  intro b cs hb hk
  obtain ⟨en, w1, fr, h1, h2, h3⟩ := h b cs hb hk
  exact ⟨en, w1, fr, h1, .of_steps (.one (hs b cs)) h2, h3⟩

theorem Run.seq {x y : Code} (h : Run P f n R (.code x :: .code y :: k) e w) : Run P f n R (.code (.seq x y) :: k) e w :=
  ⟨fun a ha => Ends.of_step (fun _ _ => step_seq) (h.go a ha)⟩
theorem Run.skip (h : Run P f n R k e w) : Run P f n R (.code .skip :: k) e w := ⟨fun a ha => Ends.of_step (fun _ _ => step_skip) (h.go a ha)⟩
theorem Run.block {id : Nat} {c : Code} (h : Run P f n R (.code c :: .inBlock id :: k) e w) : Run P f n R (.code (.block id c) :: k) e w :=
  ⟨fun a ha => Ends.of_step (fun _ _ => step_block) (h.go a ha)⟩
theorem Run.inBlock {id : Nat} (h : Run P f n R k e w) : Run P f n R (.inBlock id :: k) e w := ⟨fun a ha => Ends.of_step (fun _ _ => step_inBlock) (h.go a ha)⟩
theorem Run.loop {c : Code} (h : Run P f n R (.code c :: .inLoop c :: k) e w) : Run P f n R (.code (.loop c) :: k) e w := ⟨fun a ha => Ends.of_step (fun _ _ => step_loop) (h.go a ha)⟩
theorem Run.inLoop {c : Code} (h : Run P f n R (.code c :: .inLoop c :: k) e w) : Run P f n R (.inLoop c :: k) e w := ⟨fun a ha => Ends.of_step (fun _ _ => step_inLoop) (h.go a ha)⟩
theorem Run.exit {id : Nat} {k' : List Item} (hx : exitTo id k = some k') (h : Run P f n R k' e w) : Run P f n R (.code (.exit id) :: k) e w :=
  ⟨fun a ha => Ends.of_step (fun _ _ => step_exit hx) (h.go a ha)⟩
theorem Run.cond {c : Operand} {x y : Code} {t : Bool} (hc : ev e c = some (.bool t)) (h1 : t = true → Run P f n R (.code x :: k) e w) (h2 : t = false → Run P f n R (.code y :: k) e w) :
    Run P f n R (.code (.cond c x y) :: k) e w := by
  refine ⟨fun a ha => ?_⟩
  refine Ends.of_step (fun _ _ => step_cond (ha.ev hc)) ?_
  cases t
  · exact (h2 rfl).go a ha
  · exact (h1 rfl).go a ha
theorem Run.cond_true {c : Operand} {x y : Code} (hc : ev e c = some (.bool true)) (h1 : Run P f n R (.code x :: k) e w) : Run P f n R (.code (.cond c x y) :: k) e w :=
  Run.cond hc (fun _ => h1) (fun h => by cases h)
theorem Run.cond_false {c : Operand} {x y : Code} (hc : ev e c = some (.bool false)) (h1 : Run P f n R (.code y :: k) e w) : Run P f n R (.code (.cond c x y) :: k) e w :=
  Run.cond hc (fun h => by cases h) (fun _ => h1)

/-- The values that a function hands back. -/
inductive Res (P : Program) (e : Env) (w : World) : List ResultVar → List Value → Prop
  | nil : Res P e w [] []
  | tmp {t v rs vs} : e.get t = some v → Res P e w rs vs → Res P e w (.tmp t :: rs) (v :: vs)
  | cell {t p ty v rs vs} : e.get t = some (.pointer (some p)) → (loadVar ty p).run P w = .ok v w → Res P e w rs vs → Res P e w (.cell t ty :: rs) (v :: vs)

def tup : List Value → Value
  | [v] => v
  | vs => .tuple vs.toArray

def resOf (tmps : Array Value) : ResultVar → Sem Value
  | .tmp t => Pure.pure (tmps.getD t undef)
  | .cell p t => do loadVar t (← asAddr (tmps.getD p undef))

theorem results_eq (fn : Func) (tmps : Array Value) : results fn tmps = (do let vs ← fn.results.mapM (resOf tmps); Pure.pure (if h : vs.size = 1 then vs[0] else .tuple vs)) := by
  unfold results
  congr 2

theorem Res.run {rs : List ResultVar} {vs : List Value} (h : Res P e w rs vs) {a : Act} (ha : Ok n e a) :
    (rs.mapM (resOf a.tmps) : Sem (List Value)).run P w = .ok vs w := by
  induction h with
  | nil => simp
  | tmp ht _ ih => have := ha.get _ _ ht; simp [List.mapM_cons, resOf, this, ih]
  | cell ht hl _ ih => have := ha.get _ _ ht; simp [List.mapM_cons, resOf, this, ih, asAddr, hl]

theorem Res.results {fn : Func} {rs : List ResultVar} {vs : List Value} (hrs : fn.results = rs.toArray) (hr : Res P e w rs vs) {a : Act} (ha : Ok n e a) :
    (Go.results fn a.tmps).run P w = .ok (tup vs) w := by
  have h1 := hr.run ha
  rw [results_eq, hrs, Array.mapM_eq_mapM_toList]
  simp only [Sem.run_bind, Sem.run_map, h1, Result.andThen_ok, Sem.run_pure]
  congr 1
  cases vs with
  | nil => rfl
  | cons v vs => cases vs <;> simp [tup]

theorem Run.ret {fn : Func} {rs : List ResultVar} {vs : List Value} (hf : P.funcs[f]? = some fn) (hrs : fn.results = rs.toArray) (hr : Res P e w rs vs) (hR : R (.returned (tup vs)) w) :
    Run P f n R (.code .ret :: k) e w := by
  refine ⟨fun a ha b cs hb hk => ?_⟩
  exact ⟨.returned (tup vs), w, _, hR, .one step_ret, hb, rfl, ha.defers, hk, fn, by rw [show ({ b.at a (.code .ret :: k) with mode := .returning } : Frame).fn = b.fn from rfl, hb]; exact hf, hr.results hrs ha⟩

theorem Run.done {fn : Func} {rs : List ResultVar} {vs : List Value} (hf : P.funcs[f]? = some fn) (hrs : fn.results = rs.toArray) (hr : Res P e w rs vs) (hR : R (.returned (tup vs)) w) :
    Run P f n R [] e w := by
  refine ⟨fun a ha b cs hb hk => ?_⟩
  exact ⟨.returned (tup vs), w, _, hR, .one step_end, hb, rfl, ha.defers, hk, fn, by rw [show ({ b.at a [] with mode := .returning } : Frame).fn = b.fn from rfl, hb]; exact hf, hr.results hrs ha⟩

theorem Ends.of_wp {c : Code} {a : Act} (h : c.wp P (QK P f R k) a w) : Ends P f R (.code c :: k) a w := by
  intro b cs hb hk
  obtain ⟨ex, a', w', hq, harr⟩ := h b k cs
  cases ex with
  | normal =>
    obtain ⟨en, w1, fr, h1, h2, h3⟩ := hq b cs hb hk
    exact ⟨en, w1, fr, h1, .of_steps harr h2, h3⟩
  | outgrown => exact ⟨.outgrown, w', b, hq, harr.resolve_left (by simp [hk]), hb, trivial⟩
  | exit id => exact hq.elim
  | goto l => exact hq.elim
  | ret => exact hq.elim
  | panic ch => exact hq.elim

theorem Run.region {id : Nat} {l : List Oper} (h : RO P f n R k l l e w) : Run P f n R (.code (.region id l.toArray false) :: k) e w :=
  ⟨fun a ha => Ends.of_wp (wp_region_lit (h.go a ha))⟩

theorem RO.nil {ops : List Oper} (h : Run P f n R k e w) : RO P f n R k ops [] e w := ⟨fun a ha => wpList_nil (h.go a ha)⟩

/-- An operation that yields a value and leaves the world alone, in every world that meets 'S'. -/
structure Still (P : Program) (n : Nat) (e : Env) (S : World → Prop) (op : Op) (ty : TypeId) (v : Value) : Prop where
  go : ∀ a w, Ok n e a → S w → ∀ d pos aft g, (execOp a.eval ⟨d, op, ty, pos, aft, g⟩).run P w = .ok (.value v) w

/-- One operation: what may come behind it. -/
structure OP (P : Program) (n : Nat) (o : Oper) (e : Env) (w : World) (K : Env → World → Prop) : Prop where
  go : ∀ a, Ok n e a → ∀ (Q : Exit → Act → World → Prop) (next : Act → World → Prop), (∀ e' a' w', Ok n e' a' → K e' w' → next a' w') → o.wp P a w next Q

theorem RO.op {ops rest : List Oper} {dst : Option Tmp} {op : Op} {ty : TypeId} {pos : String} {aft : Array Edge} (h : OP P n ⟨dst, op, ty, pos, aft, none⟩ e w (fun e' w' => RO P f n R k ops rest e' w')) :
    RO P f n R k ops (⟨dst, op, ty, pos, aft, none⟩ :: rest) e w :=
  ⟨fun a ha => wpList_plain rfl fun K hK => h.go a ha _ _ (fun e' a' w' hok hk => hK _ _ (hk.go _ hok))⟩

theorem OP.put {K : Env → World → Prop} {d : Nat} {op : Op} {ty : TypeId} {pos : String} {aft : Array Edge} {g : Option (Nat × Bool)} {v : Value} {w' : World}
    (h : ∀ a, Ok n e a → (execOp a.eval ⟨some d, op, ty, pos, aft, g⟩).run P w = .ok (.value v) w') (hd : Nat.blt d n = true)
    (hk : K ((d, v) :: e) w') : OP P n ⟨some d, op, ty, pos, aft, g⟩ e w K := by
  refine ⟨fun a ha Q next hn => ?_⟩
  unfold Oper.wp
  rw [h a ha]
  exact hn _ _ _ (ha.put hd v) hk

theorem OP.still {K : Env → World → Prop} {d : Nat} {op : Op} {ty : TypeId} {pos : String} {aft : Array Edge} {g : Option (Nat × Bool)} {v : Value} {S : World → Prop}
    (h : Still P n e S op ty v) (hS : S w) (hd : Nat.blt d n = true) (hk : K ((d, v) :: e) w) : OP P n ⟨some d, op, ty, pos, aft, g⟩ e w K :=
  OP.put (fun a ha => h.go a w ha hS _ _ _ _) hd hk

theorem OP.act {K : Env → World → Prop} {op : Op} {ty : TypeId} {pos : String} {aft : Array Edge} {g : Option (Nat × Bool)} {w' : World}
    (h : ∀ a, Ok n e a → (execOp a.eval ⟨none, op, ty, pos, aft, g⟩).run P w = .ok .skip w') (hk : K e w') : OP P n ⟨none, op, ty, pos, aft, g⟩ e w K := by
  refine ⟨fun a ha Q next hn => ?_⟩
  unfold Oper.wp
  rw [h a ha]
  exact hn _ _ _ ha hk

theorem OP.call {K : Env → World → Prop} {d : Nat} {op : Op} {ty : TypeId} {pos : String} {aft : Array Edge} {gd : Option (Nat × Bool)} {g : FuncId} {args : List Value} {Φ : Value → World → Prop}
    (h : ∀ a, Ok n e a → (execOp a.eval ⟨some d, op, ty, pos, aft, gd⟩).run P w = .ok (.enter g args.toArray) w) (hd : Nat.blt d n = true)
    (hc : Cl P g args w Φ) (hk : ∀ v w', Φ v w' → K ((d, v) :: e) w') : OP P n ⟨some d, op, ty, pos, aft, gd⟩ e w K := by
  refine ⟨fun a ha Q next hn => ?_⟩
  unfold Oper.wp
  rw [h a ha]
  refine hc.go.mono fun en w' hr => ?_
  cases en with
  | returned v => exact hn _ _ _ (ha.put hd v) (hk v w' hr)
  | panicked ch => exact hr.elim
  | outgrown => exact hr.elim

theorem OP.callNone {K : Env → World → Prop} {op : Op} {ty : TypeId} {pos : String} {aft : Array Edge} {gd : Option (Nat × Bool)} {g : FuncId} {args : List Value} {Φ : Value → World → Prop}
    (h : ∀ a, Ok n e a → (execOp a.eval ⟨none, op, ty, pos, aft, gd⟩).run P w = .ok (.enter g args.toArray) w)
    (hc : Cl P g args w Φ) (hk : ∀ v w', Φ v w' → K e w') : OP P n ⟨none, op, ty, pos, aft, gd⟩ e w K := by
  refine ⟨fun a ha Q next hn => ?_⟩
  unfold Oper.wp
  rw [h a ha]
  refine hc.go.mono fun en w' hr => ?_
  cases en with
  | returned v => exact hn _ _ _ ha (hk v w' hr)
  | panicked ch => exact hr.elim
  | outgrown => exact hr.elim

theorem RO.still {ops rest : List Oper} {d : Nat} {op : Op} {ty : TypeId} {pos : String} {aft : Array Edge} {v : Value} {S : World → Prop}
    (h : Still P n e S op ty v) (hS : S w) (hd : Nat.blt d n = true) (hk : RO P f n R k ops rest ((d, v) :: e) w) : RO P f n R k ops (⟨some d, op, ty, pos, aft, none⟩ :: rest) e w :=
  RO.op (OP.still h hS hd hk)

theorem yield_of {ops : List Oper} {j t : Nat} {b : Bool} {a : Act} (ha : Ok n e a) (hj : ((ops[j]?).bind (·.dst)) = some t) (ht : e.get t = some (.bool b)) : yielded ops.toArray a.tmps j = some b := by
  unfold yielded
  have h1 : ((ops.toArray[j]?).bind (·.dst)) = some t := by simpa using hj
  have := ha.get t _ ht
  rw [h1]
  simp [this]

theorem yield_none {ops : List Oper} {j t : Nat} {a : Act} (ha : Ok n e a) (hj : ((ops[j]?).bind (·.dst)) = some t) (ht : e.get t = some undef) : yielded ops.toArray a.tmps j = none := by
  unfold yielded
  have h1 : ((ops.toArray[j]?).bind (·.dst)) = some t := by simpa using hj
  have := ha.get t _ ht
  rw [h1]
  simp [this]
  rfl

/-- An operation whose guard says yes. -/
theorem RO.yes {ops rest : List Oper} {dst : Option Nat} {op : Op} {ty : TypeId} {pos : String} {aft : Array Edge} {j t : Nat} {b : Bool}
    (hj : ((ops[j]?).bind (·.dst)) = some t) (ht : e.get t = some (.bool b))
    (hk : RO P f n R k ops (⟨dst, op, ty, pos, aft, none⟩ :: rest) e w) : RO P f n R k ops (⟨dst, op, ty, pos, aft, some (j, b)⟩ :: rest) e w := by
  refine ⟨fun a ha => ?_⟩
  have h1 := hk.go a ha
  have hw : Region.wanted ⟨dst, op, ty, pos, aft, some (j, b)⟩ (yielded ops.toArray a.tmps) = true := by simp [Region.wanted, yield_of ha hj ht]
  unfold wpList at h1 ⊢
  rw [if_pos hw]
  rw [if_pos (by simp [Region.wanted])] at h1
  exact h1

/-- An operation whose guard says no. -/
theorem RO.no {ops rest : List Oper} {d : Nat} {op : Op} {ty : TypeId} {pos : String} {aft : Array Edge} {j t : Nat} {b c : Bool}
    (hj : ((ops[j]?).bind (·.dst)) = some t) (ht : e.get t = some (.bool c)) (hd : Nat.blt d n = true) (hne : (c == b) = false)
    (hk : RO P f n R k ops rest ((d, undef) :: e) w) : RO P f n R k ops (⟨some d, op, ty, pos, aft, some (j, b)⟩ :: rest) e w := by
  refine ⟨fun a ha => ?_⟩
  have hw : Region.wanted ⟨some d, op, ty, pos, aft, some (j, b)⟩ (yielded ops.toArray a.tmps) = false := by simp [Region.wanted, yield_of ha hj ht, hne]
  exact wpList_skip hw (hk.go _ (ha.put hd undef))

theorem RO.noNone {ops rest : List Oper} {op : Op} {ty : TypeId} {pos : String} {aft : Array Edge} {j t : Nat} {b c : Bool}
    (hj : ((ops[j]?).bind (·.dst)) = some t) (ht : e.get t = some (.bool c)) (hne : (c == b) = false)
    (hk : RO P f n R k ops rest e w) : RO P f n R k ops (⟨none, op, ty, pos, aft, some (j, b)⟩ :: rest) e w := by
  refine ⟨fun a ha => ?_⟩
  have hw : Region.wanted ⟨none, op, ty, pos, aft, some (j, b)⟩ (yielded ops.toArray a.tmps) = false := by simp [Region.wanted, yield_of ha hj ht, hne]
  exact wpList_skip hw (hk.go _ ha)

/-- An operation whose guard was not yielded at all. -/
theorem RO.noUndef {ops rest : List Oper} {d : Nat} {op : Op} {ty : TypeId} {pos : String} {aft : Array Edge} {j t : Nat} {b : Bool}
    (hj : ((ops[j]?).bind (·.dst)) = some t) (ht : e.get t = some undef) (hd : Nat.blt d n = true)
    (hk : RO P f n R k ops rest ((d, undef) :: e) w) : RO P f n R k ops (⟨some d, op, ty, pos, aft, some (j, b)⟩ :: rest) e w := by
  refine ⟨fun a ha => ?_⟩
  have hw : Region.wanted ⟨some d, op, ty, pos, aft, some (j, b)⟩ (yielded ops.toArray a.tmps) = false := by simp [Region.wanted, yield_none ha hj ht]
  exact wpList_skip hw (hk.go _ (ha.put hd undef))

/-- A test is decided one way or the other. -/
theorem RO.split {ops rest : List Oper} {d : Nat} {p : Prop} [Decidable p] (h1 : p → RO P f n R k ops rest ((d, .bool true) :: e) w) (h2 : ¬ p → RO P f n R k ops rest ((d, .bool false) :: e) w) :
    RO P f n R k ops rest ((d, .bool (decide p)) :: e) w := by
  by_cases h : p
  · rw [decide_eq_true h]; exact h1 h
  · rw [decide_eq_false h]; exact h2 h
theorem RO.splitB {ops rest : List Oper} {d : Nat} {b : Bool} (h1 : b = true → RO P f n R k ops rest ((d, .bool true) :: e) w) (h2 : b = false → RO P f n R k ops rest ((d, .bool false) :: e) w) :
    RO P f n R k ops rest ((d, .bool b) :: e) w := by
  cases b
  · exact h2 rfl
  · exact h1 rfl

/-- The entries of one environment stand in another. -/
inductive Sub (e : Env) : Env → Prop
  | nil : Sub e []
  | cons {t : Nat} {v : Value} {r : Env} : e.get t = some v → Sub e r → Sub e ((t, v) :: r)
theorem Sub.get {e e' : Env} (h : Sub e e') : ∀ {t : Nat} {v : Value}, e'.get t = some v → e.get t = some v := by
  induction h with
  | nil => intro t v h; simp [Env.get] at h
  | cons h1 _ ih =>
    rename_i t0 v0 r _
    intro t v h
    simp only [Env.get] at h
    by_cases e1 : t0 = t
    · subst e1; simp at h; subst h; exact h1
    · have hb : Nat.beq t0 t = false := by
        cases hh : Nat.beq t0 t with
        | false => rfl
        | true => exact absurd (Nat.eq_of_beq_eq_true hh) e1
      rw [hb] at h
      exact ih h
theorem Run.weaken {e' : Env} (hs : Sub e e') (h : Run P f n R k e' w) : Run P f n R k e w :=
  ⟨fun a ha => h.go a ⟨ha.size, ha.defers, fun t v ht => ha.get t v (hs.get ht)⟩⟩

/-- A loop, by what holds at each round's head. -/
theorem Run.while {ι : Type} {c : Code} (I : ι → Env) (inv : ι → World → Prop) (μ : ι → Nat) (i0 : ι) (h0 : inv i0 w) (hs : Sub e (I i0))
    (round : ∀ i w, inv i w → (∀ j w', inv j w' → μ j < μ i → Run P f n R (.inLoop c :: k) (I j) w') → Run P f n R (.code c :: .inLoop c :: k) (I i) w) :
    Run P f n R (.code (.loop c) :: k) e w := by
  have key : ∀ m i w, μ i = m → inv i w → Run P f n R (.code c :: .inLoop c :: k) (I i) w := by
    intro m
    induction m using Nat.strongRecOn with
    | _ m ih => exact fun i w hm hi => round i w hi (fun j w' hj hlt => Run.inLoop (ih (μ j) (hm ▸ hlt) j w' rfl hj))
  exact Run.loop (Run.weaken hs (key _ i0 w rfl h0))
end
end Go.Proofs.Ythejfodjielahaa
