/-
  Regions that draw the order of their operations. Holds of every program.
-/
import Derived.Test.YthejfodjielahaaMem
namespace Go.Proofs.Ythejfodjielahaa
set_option maxRecDepth 8000
set_option linter.unusedSimpArgs false
set_option linter.unusedVariables false
open Go Go.RowKit

/-! ### All operations leave a class of worlds, and yield one value in all of it: one walk serves every order -/
structure RQ (P : Program) (f : FuncId) (n : Nat) (R : Ending → World → Prop) (k : List Item) (C : World → Prop) (ops rest : List Oper) (e : Env) : Prop where
  go : ∀ a, Ok n e a → wpQuiet P ops.toArray C (fun a' => ∀ w', C w' → Ends P f R k a' w') rest a

/-! ### Whatever order: what yields its value in every world that meets S is taken first -/
/-- What is asked behind a region. -/
def QE (n : Nat) (K : Env → World → Prop) : Exit → Act → World → Prop
  | .normal, a, w => ∃ e, Ok n e a ∧ K e w
  | _, _, _ => False
structure RH (P : Program) (n : Nat) (K : Env → World → Prop) (S : World → Prop) (ops : List Oper) (fuel : Nat) (listed : Array Bool) (e : Env) (w : World) : Prop where
  go : ∀ a, Ok n e a → wpAnyH P .any ops.toArray (QE n K) S fuel listed a w
/-- Operation i comes up. -/
structure RI (P : Program) (n : Nat) (K : Env → World → Prop) (S : World → Prop) (ops : List Oper) (fuel : Nat) (listed : Array Bool) (i : Nat) (e : Env) (w : World) : Prop where
  go : ∀ a, Ok n e a → wpOp P ops.toArray (QE n K) i (fun a' w' => S w' ∧ wpAnyH P .any ops.toArray (QE n K) S fuel (listed.setIfInBounds i true) a' w') a w

def takeB (ops : List Oper) (listed : Array Bool) (i : Nat) : Bool :=
  Region.noSelect ops.toArray && Region.free .any ops.toArray listed i && (Region.ready .any ops.toArray listed).contains i

section
variable {P : Program} {f : FuncId} {n : Nat} {R : Ending → World → Prop} {k : List Item} {e : Env} {w : World} {C S : World → Prop} {ops rest : List Oper} {K : Env → World → Prop}

theorem Run.regionQ {id : Nat} {l : List Oper} (hm : P.follows .mixedOrders = true) (hB : Region.lexB .any l.toArray = true) (hC : C w.drew) (h : RQ P f n R k C l l e) : Run P f n R (.code (.region id l.toArray true) :: k) e w :=
  ⟨fun a ha => Ends.of_wp (wp_region_quiet (C := C) hm hB hC (by
    have := h.go a ha
    simp only [List.toList_toArray]
    exact this))⟩

theorem RQ.nil (h : ∀ w, C w → Run P f n R k e w) : RQ P f n R k C ops [] e := ⟨fun a ha => wpQuiet_nil (fun w' hw' => (h w' hw').go a ha)⟩

theorem RQ.op {d : Nat} {op : Op} {ty : TypeId} {pos : String} {aft : Array Edge} {v : Value} (h : ∀ a, Ok n e a → ∀ w, C w → (⟨some d, op, ty, pos, aft, none⟩ : Oper).quietAt P a C w v) (hd : Nat.blt d n = true)
    (hk : RQ P f n R k C ops rest ((d, v) :: e)) : RQ P f n R k C ops (⟨some d, op, ty, pos, aft, none⟩ :: rest) e := by
  refine ⟨fun a ha => wpQuiet_step fun K hK => ?_⟩
  simp only [Region.wanted, if_true]
  exact ⟨v, h a ha, hK _ (hk.go _ (ha.put hd v))⟩

theorem RQ.still {d : Nat} {op : Op} {ty : TypeId} {pos : String} {aft : Array Edge} {v : Value} (h : Still P n e C op ty v) (hd : Nat.blt d n = true)
    (hk : RQ P f n R k C ops rest ((d, v) :: e)) : RQ P f n R k C ops (⟨some d, op, ty, pos, aft, none⟩ :: rest) e :=
  RQ.op (fun a ha w hw => by unfold Oper.quietAt; rw [h.go a w ha hw]; exact ⟨rfl, rfl⟩) hd hk

theorem RQ.call {d : Nat} {op : Op} {ty : TypeId} {pos : String} {aft : Array Edge} {v : Value} {g : FuncId} {args : List Value}
    (h : ∀ w a, Ok n e a → (execOp a.eval ⟨some d, op, ty, pos, aft, none⟩).run P w = .ok (.enter g args.toArray) w) (hd : Nat.blt d n = true)
    (hc : ∀ w, C w → Cl P g args w fun u w' => u = v ∧ C w') (hk : RQ P f n R k C ops rest ((d, v) :: e)) : RQ P f n R k C ops (⟨some d, op, ty, pos, aft, none⟩ :: rest) e :=
  RQ.op (fun a ha w hw => by
    unfold Oper.quietAt
    rw [h w a ha]
    refine ⟨rfl, (hc w hw).go.mono fun en w' hr => ?_⟩
    cases en with
    | returned u => exact ⟨by rw [hr.1], hr.2⟩
    | panicked ch => exact hr.elim
    | outgrown => exact hr.elim) hd hk
theorem RQ.callF {d : Nat} {ty : TypeId} {pos : String} {aft : Array Edge} {v : Value} {g : FuncId} {args : List Operand} {ts : Array TypeId} {vs : List Value} (h : fnB P g = true) (hx : evs e args = some vs) (hd : Nat.blt d n = true)
    (hc : ∀ w, C w → Cl P g vs w fun u w' => u = v ∧ C w') (hk : RQ P f n R k C ops rest ((d, v) :: e)) :
    RQ P f n R k C ops (⟨some d, .call { callee := .value (.func g), args := args.toArray, argTypes := ts }, ty, pos, aft, none⟩ :: rest) e :=
  RQ.call (fun w a ha => enter_call h hx a ha _ _ _ _) hd hc hk
theorem RQ.callV {d : Nat} {ty : TypeId} {pos : String} {aft : Array Edge} {v : Value} {g : FuncId} {fv : Operand} {args : List Operand} {ts : Array TypeId} {vs first cap : List Value} (hf : ev e fv = some (.func (.func g) first.toArray cap.toArray)) (h : fnB P g = true) (hx : evs e args = some vs) (hd : Nat.blt d n = true)
    (hc : ∀ w, C w → Cl P g (first ++ vs ++ cap) w fun u w' => u = v ∧ C w') (hk : RQ P f n R k C ops rest ((d, v) :: e)) :
    RQ P f n R k C ops (⟨some d, .call { callee := .value fv, args := args.toArray, argTypes := ts }, ty, pos, aft, none⟩ :: rest) e :=
  RQ.call (fun w a ha => enter_callv h hf hx a ha _ _ _ _) hd hc hk

theorem RQ.yes {dst : Option Nat} {op : Op} {ty : TypeId} {pos : String} {aft : Array Edge} {j t : Nat} {b : Bool}
    (hj : ((ops[j]?).bind (·.dst)) = some t) (ht : e.get t = some (.bool b))
    (hk : RQ P f n R k C ops (⟨dst, op, ty, pos, aft, none⟩ :: rest) e) : RQ P f n R k C ops (⟨dst, op, ty, pos, aft, some (j, b)⟩ :: rest) e := by
  refine ⟨fun a ha => ?_⟩
  have h1 := hk.go a ha
  have hw : Region.wanted ⟨dst, op, ty, pos, aft, some (j, b)⟩ (yielded ops.toArray a.tmps) = true := by simp [Region.wanted, yield_of ha hj ht]
  unfold wpQuiet at h1 ⊢
  rw [if_pos hw]
  rw [if_pos (by simp [Region.wanted])] at h1
  exact h1
theorem RQ.skip {d : Nat} {op : Op} {ty : TypeId} {pos : String} {aft : Array Edge} {g : Option (Nat × Bool)} (hw : ∀ a, Ok n e a → Region.wanted ⟨some d, op, ty, pos, aft, g⟩ (yielded ops.toArray a.tmps) = false) (hd : Nat.blt d n = true)
    (hk : RQ P f n R k C ops rest ((d, undef) :: e)) : RQ P f n R k C ops (⟨some d, op, ty, pos, aft, g⟩ :: rest) e := by
  refine ⟨fun a ha => ?_⟩
  unfold wpQuiet
  rw [if_neg (by simp [hw a ha])]
  exact hk.go _ (ha.put hd undef)
theorem RQ.no {d : Nat} {op : Op} {ty : TypeId} {pos : String} {aft : Array Edge} {j t : Nat} {b c : Bool}
    (hj : ((ops[j]?).bind (·.dst)) = some t) (ht : e.get t = some (.bool c)) (hd : Nat.blt d n = true) (hne : (c == b) = false)
    (hk : RQ P f n R k C ops rest ((d, undef) :: e)) : RQ P f n R k C ops (⟨some d, op, ty, pos, aft, some (j, b)⟩ :: rest) e :=
  RQ.skip (fun a ha => by simp [Region.wanted, yield_of ha hj ht, hne]) hd hk
theorem RQ.noUndef {d : Nat} {op : Op} {ty : TypeId} {pos : String} {aft : Array Edge} {j t : Nat} {b : Bool}
    (hj : ((ops[j]?).bind (·.dst)) = some t) (ht : e.get t = some undef) (hd : Nat.blt d n = true)
    (hk : RQ P f n R k C ops rest ((d, undef) :: e)) : RQ P f n R k C ops (⟨some d, op, ty, pos, aft, some (j, b)⟩ :: rest) e :=
  RQ.skip (fun a ha => by simp [Region.wanted, yield_none ha hj ht]) hd hk
theorem RQ.split {d : Nat} {p : Prop} [Decidable p] (h1 : p → RQ P f n R k C ops rest ((d, .bool true) :: e)) (h2 : ¬ p → RQ P f n R k C ops rest ((d, .bool false) :: e)) :
    RQ P f n R k C ops rest ((d, .bool (decide p)) :: e) := by
  by_cases h : p
  · rw [decide_eq_true h]; exact h1 h
  · rw [decide_eq_false h]; exact h2 h
theorem RQ.splitB {d : Nat} {b : Bool} (h1 : b = true → RQ P f n R k C ops rest ((d, .bool true) :: e)) (h2 : b = false → RQ P f n R k C ops rest ((d, .bool false) :: e)) :
    RQ P f n R k C ops rest ((d, .bool b) :: e) := by
  cases b
  · exact h2 rfl
  · exact h1 rfl

/-! ### Orders -/
theorem Run.regionH {id m : Nat} {l : List Oper} {listed : Array Bool} (S : World → Prop) (K : Env → World → Prop) (hK : ∀ e w, K e w → Run P f n R k e w) (hm : P.follows .mixedOrders = true) (hl : l.length = m) (hr : Array.replicate m false = listed) (h : RH P n K S l m listed e w.drew) :
    Run P f n R (.code (.region id l.toArray true) :: k) e w := by
  subst hl
  subst hr
  refine ⟨fun a ha => Ends.of_wp (Code.wp_mono ?_ (wp_region_held hm (by simpa using h.go a ha)))⟩
  intro ex a' w' hq
  cases ex with
  | normal => obtain ⟨e', hok, hk⟩ := hq; exact (hK e' w' hk).go a' hok
  | _ => exact hq.elim

theorem RH.done {fuel : Nat} {listed : Array Bool} (hr : Region.ready .any ops.toArray listed = []) (h : K e w) : RH P n K S ops fuel listed e w :=
  ⟨fun a ha => wpAnyH_done hr ⟨e, ha, h⟩ fuel⟩

theorem RH.first {fuel i : Nat} {listed listed' : Array Bool} {o : Oper} {d : Nat} {v : Value} (hi : ops[i]? = some o) (hdst : o.dst = some d) (hb : takeB ops listed i = true) (hl : listed.setIfInBounds i true = listed')
    (hy : ∀ a, Ok n e a → YieldsIf P ops.toArray S o v a) (hS : S w) (hd : Nat.blt d n = true) (hk : RH P n K S ops fuel listed' ((d, v) :: e) w) : RH P n K S ops (fuel + 1) listed e w := by
  subst hl
  simp only [takeB, Bool.and_eq_true] at hb
  refine ⟨fun a ha => wpAnyH_take (i := i) (oi := o) (v := v) (by simpa using hi) hb.1.1 hb.1.2 hb.2 (fun _ _ _ h => h.elim) (hy a ha) hS ?_⟩
  rw [hdst]
  exact hk.go _ (ha.put hd v)

theorem RH.take {fuel i : Nat} {listed listed' : Array Bool} {d : Nat} {op : Op} {ty : TypeId} {pos : String} {aft : Array Edge} {v : Value} (hi : ops[i]? = some ⟨some d, op, ty, pos, aft, none⟩) (hb : takeB ops listed i = true) (hl : listed.setIfInBounds i true = listed')
    (h : Still P n e S op ty v) (hS : S w) (hd : Nat.blt d n = true) (hk : RH P n K S ops fuel listed' ((d, v) :: e) w) : RH P n K S ops (fuel + 1) listed e w :=
  RH.first hi rfl hb hl (fun a ha => .inl ⟨by simp [Region.wanted], fun w hw => h.go a w ha hw _ _ _ _⟩) hS hd hk
theorem RH.takeYes {fuel i : Nat} {listed listed' : Array Bool} {d : Nat} {op : Op} {ty : TypeId} {pos : String} {aft : Array Edge} {v : Value} {j t : Nat} {b : Bool} (hi : ops[i]? = some ⟨some d, op, ty, pos, aft, some (j, b)⟩)
    (hj : ((ops[j]?).bind (·.dst)) = some t) (ht : e.get t = some (.bool b)) (hb : takeB ops listed i = true) (hl : listed.setIfInBounds i true = listed')
    (h : Still P n e S op ty v) (hS : S w) (hd : Nat.blt d n = true) (hk : RH P n K S ops fuel listed' ((d, v) :: e) w) : RH P n K S ops (fuel + 1) listed e w :=
  RH.first hi rfl hb hl (fun a ha => .inl ⟨by simp [Region.wanted, yield_of ha hj ht], fun w hw => h.go a w ha hw _ _ _ _⟩) hS hd hk
theorem RH.takeNo {fuel i : Nat} {listed listed' : Array Bool} {d : Nat} {op : Op} {ty : TypeId} {pos : String} {aft : Array Edge} {j t : Nat} {b c : Bool} (hi : ops[i]? = some ⟨some d, op, ty, pos, aft, some (j, b)⟩)
    (hj : ((ops[j]?).bind (·.dst)) = some t) (ht : e.get t = some (.bool c)) (hne : (c == b) = false) (hb : takeB ops listed i = true) (hl : listed.setIfInBounds i true = listed')
    (hS : S w) (hd : Nat.blt d n = true) (hk : RH P n K S ops fuel listed' ((d, undef) :: e) w) : RH P n K S ops (fuel + 1) listed e w :=
  RH.first hi rfl hb hl (fun a ha => .inr ⟨by simp [Region.wanted, yield_of ha hj ht, hne], rfl⟩) hS hd hk
theorem RH.takeUndef {fuel i : Nat} {listed listed' : Array Bool} {d : Nat} {op : Op} {ty : TypeId} {pos : String} {aft : Array Edge} {j t : Nat} {b : Bool} (hi : ops[i]? = some ⟨some d, op, ty, pos, aft, some (j, b)⟩)
    (hj : ((ops[j]?).bind (·.dst)) = some t) (ht : e.get t = some undef) (hb : takeB ops listed i = true) (hl : listed.setIfInBounds i true = listed')
    (hS : S w) (hd : Nat.blt d n = true) (hk : RH P n K S ops fuel listed' ((d, undef) :: e) w) : RH P n K S ops (fuel + 1) listed e w :=
  RH.first hi rfl hb hl (fun a ha => .inr ⟨by simp [Region.wanted, yield_none ha hj ht], rfl⟩) hS hd hk

/-- The operations that a number's digits tell. -/
def bm (m k : Nat) : Array Bool := ((List.range m).map fun i => k.testBit i).toArray
theorem RH.relist {fuel : Nat} {listed listed' : Array Bool} (h : listed = listed') (hk : RH P n K S ops fuel listed' e w) : RH P n K S ops fuel listed e w := by subst h; exact hk
theorem RH.all1 {fuel i : Nat} {listed : Array Bool} (hr : Region.ready .any ops.toArray listed = [i]) (h : RI P n K S ops fuel listed i e w) : RH P n K S ops (fuel + 1) listed e w :=
  ⟨fun a ha => wpAnyH_all hr (by simp) (fun j hj => by simp at hj; subst hj; exact h.go a ha)⟩
theorem RH.all2 {fuel i1 i2 : Nat} {listed : Array Bool} (hr : Region.ready .any ops.toArray listed = [i1, i2]) (h1 : RI P n K S ops fuel listed i1 e w) (h2 : RI P n K S ops fuel listed i2 e w) : RH P n K S ops (fuel + 1) listed e w :=
  ⟨fun a ha => wpAnyH_all hr (by simp) (fun j hj => by
    simp at hj
    rcases hj with rfl | rfl
    · exact h1.go a ha
    · exact h2.go a ha)⟩
theorem RH.all3 {fuel i1 i2 i3 : Nat} {listed : Array Bool} (hr : Region.ready .any ops.toArray listed = [i1, i2, i3]) (h1 : RI P n K S ops fuel listed i1 e w) (h2 : RI P n K S ops fuel listed i2 e w) (h3 : RI P n K S ops fuel listed i3 e w) : RH P n K S ops (fuel + 1) listed e w :=
  ⟨fun a ha => wpAnyH_all hr (by simp) (fun j hj => by
    simp at hj
    rcases hj with rfl | rfl | rfl
    · exact h1.go a ha
    · exact h2.go a ha
    · exact h3.go a ha)⟩

theorem RI.op {fuel i : Nat} {listed listed' : Array Bool} {dst : Option Tmp} {op : Op} {ty : TypeId} {pos : String} {aft : Array Edge} (hi : ops[i]? = some ⟨dst, op, ty, pos, aft, none⟩) (hl : listed.setIfInBounds i true = listed')
    (h : OP P n ⟨dst, op, ty, pos, aft, none⟩ e w (fun e' w' => S w' ∧ RH P n K S ops fuel listed' e' w')) : RI P n K S ops fuel listed i e w := by
  subst hl
  refine ⟨fun a ha => ?_⟩
  unfold wpOp
  have hi' : ops.toArray[i]? = some ⟨dst, op, ty, pos, aft, none⟩ := by simpa using hi
  rw [hi']
  simp only [Region.wanted, if_true]
  exact .inl (h.go a ha _ _ (fun e' a' w' hok hk => ⟨hk.1, hk.2.go a' hok⟩))
theorem RI.yes {fuel i : Nat} {listed listed' : Array Bool} {dst : Option Tmp} {op : Op} {ty : TypeId} {pos : String} {aft : Array Edge} {j t : Nat} {b : Bool} (hi : ops[i]? = some ⟨dst, op, ty, pos, aft, some (j, b)⟩)
    (hj : ((ops[j]?).bind (·.dst)) = some t) (ht : e.get t = some (.bool b)) (hl : listed.setIfInBounds i true = listed')
    (h : OP P n ⟨dst, op, ty, pos, aft, some (j, b)⟩ e w (fun e' w' => S w' ∧ RH P n K S ops fuel listed' e' w')) : RI P n K S ops fuel listed i e w := by
  subst hl
  refine ⟨fun a ha => ?_⟩
  unfold wpOp
  have hi' : ops.toArray[i]? = some ⟨dst, op, ty, pos, aft, some (j, b)⟩ := by simpa using hi
  rw [hi']
  simp only [Region.wanted, yield_of ha hj ht]
  rw [if_pos (by simp)]
  exact .inl (h.go a ha _ _ (fun e' a' w' hok hk => ⟨hk.1, hk.2.go a' hok⟩))
theorem RI.no {fuel i : Nat} {listed listed' : Array Bool} {d : Nat} {op : Op} {ty : TypeId} {pos : String} {aft : Array Edge} {j t : Nat} {b c : Bool} (hi : ops[i]? = some ⟨some d, op, ty, pos, aft, some (j, b)⟩)
    (hj : ((ops[j]?).bind (·.dst)) = some t) (ht : e.get t = some (.bool c)) (hne : (c == b) = false) (hl : listed.setIfInBounds i true = listed') (hd : Nat.blt d n = true) (hS : S w)
    (h : RH P n K S ops fuel listed' ((d, undef) :: e) w) : RI P n K S ops fuel listed i e w := by
  subst hl
  refine ⟨fun a ha => ?_⟩
  unfold wpOp
  have hi' : ops.toArray[i]? = some ⟨some d, op, ty, pos, aft, some (j, b)⟩ := by simpa using hi
  rw [hi']
  simp only [Region.wanted, yield_of ha hj ht]
  rw [if_neg (by simpa using hne)]
  exact ⟨hS, h.go _ (ha.put hd undef)⟩
theorem RI.noUndef {fuel i : Nat} {listed listed' : Array Bool} {d : Nat} {op : Op} {ty : TypeId} {pos : String} {aft : Array Edge} {j t : Nat} {b : Bool} (hi : ops[i]? = some ⟨some d, op, ty, pos, aft, some (j, b)⟩)
    (hj : ((ops[j]?).bind (·.dst)) = some t) (ht : e.get t = some undef) (hl : listed.setIfInBounds i true = listed') (hd : Nat.blt d n = true) (hS : S w)
    (h : RH P n K S ops fuel listed' ((d, undef) :: e) w) : RI P n K S ops fuel listed i e w := by
  subst hl
  refine ⟨fun a ha => ?_⟩
  unfold wpOp
  have hi' : ops.toArray[i]? = some ⟨some d, op, ty, pos, aft, some (j, b)⟩ := by simpa using hi
  rw [hi']
  simp only [Region.wanted, yield_none ha hj ht]
  rw [if_neg (by simp)]
  exact ⟨hS, h.go _ (ha.put hd undef)⟩
theorem RH.split {fuel d : Nat} {listed : Array Bool} {p : Prop} [Decidable p] (h1 : p → RH P n K S ops fuel listed ((d, .bool true) :: e) w) (h2 : ¬ p → RH P n K S ops fuel listed ((d, .bool false) :: e) w) :
    RH P n K S ops fuel listed ((d, .bool (decide p)) :: e) w := by
  by_cases h : p
  · rw [decide_eq_true h]; exact h1 h
  · rw [decide_eq_false h]; exact h2 h
theorem RH.splitB {fuel d : Nat} {listed : Array Bool} {b : Bool} (h1 : b = true → RH P n K S ops fuel listed ((d, .bool true) :: e) w) (h2 : b = false → RH P n K S ops fuel listed ((d, .bool false) :: e) w) :
    RH P n K S ops fuel listed ((d, .bool b) :: e) w := by
  cases b
  · exact h2 rfl
  · exact h1 rfl

theorem St.sublist {we w : World} {ρ : List (Nat × Obj)} {σ σ' : List HP} (hs : σ'.Sublist σ) : St we ρ σ w → St we ρ σ' w := by
  intro h
  obtain ⟨hb, ⟨X, hX, hn, hr, hρ⟩, hro⟩ := h
  have key : ∀ {σ' σ : List HP}, σ'.Sublist σ → ∀ {X : List Nat}, sep σ w X → ∃ Y, Y.Sublist X ∧ sep σ' w Y := by
    intro σ' σ hs
    induction hs with
    | slnil => exact fun h => ⟨_, List.Sublist.refl _, h⟩
    | cons _ _ ih =>
      rintro X ⟨X1, X2, rfl, _, h2⟩
      obtain ⟨Y, h3, h4⟩ := ih h2
      exact ⟨Y, h3.trans (List.sublist_append_right _ _), h4⟩
    | cons_cons _ _ ih =>
      rintro X ⟨X1, X2, rfl, h1, h2⟩
      obtain ⟨Y, h3, h4⟩ := ih h2
      exact ⟨X1 ++ Y, List.Sublist.append_left h3 _, X1, Y, rfl, h1, h4⟩
  obtain ⟨Y, h1, h2⟩ := key hs hX
  exact ⟨hb, ⟨Y, h2, h1.nodup hn, fun b hb' => hr b (h1.subset hb'), fun x hx hx' => hρ x hx (h1.subset hx')⟩, hro⟩

section
variable {we : World} {ρ : List (Nat × Obj)} {σ σ' : List HP}
theorem Run.regionQ_of {id : Nat} {l : List Oper} (hS : St we ρ σ w) (hm : P.follows .mixedOrders = true) (hB : Region.lexB .any l.toArray = true) (h : RQ P f n R k (St we ρ σ) l l e) : Run P f n R (.code (.region id l.toArray true) :: k) e w :=
  Run.regionQ hm hB hS.drew h
theorem Run.regionH_of {id m : Nat} {l : List Oper} {listed : Array Bool} (hS : St we ρ σ w) (hs : σ'.Sublist σ) (hm : P.follows .mixedOrders = true) (hl : l.length = m) (hr : Array.replicate m false = listed)
    (h : ∀ w1, St we ρ σ w1 → RH P n (fun e w => Run P f n R k e w) (St we ρ σ') l m listed e w1) : Run P f n R (.code (.region id l.toArray true) :: k) e w :=
  Run.regionH _ _ (fun _ _ h => h) hm hl hr (h _ hS.drew)

/-- What is behind the region is told once for all orders. -/
def Cut {α : Type} (we : World) (ρ : List (Nat × Obj)) (σ2 : α → List HP) (e2 : α → Env) (e : Env) (w : World) : Prop := ∃ x, Sub e (e2 x) ∧ St we ρ (σ2 x) w
theorem Run.regionH_cut {α : Type} {id m : Nat} {l : List Oper} {listed : Array Bool} (σ2 : α → List HP) (e2 : α → Env) (hS : St we ρ σ w) (hs : σ'.Sublist σ) (hm : P.follows .mixedOrders = true) (hl : l.length = m) (hr : Array.replicate m false = listed)
    (h : ∀ w1, St we ρ σ w1 → RH P n (Cut we ρ σ2 e2) (St we ρ σ') l m listed e w1) (hpost : ∀ x w1, St we ρ (σ2 x) w1 → Run P f n R k (e2 x) w1) : Run P f n R (.code (.region id l.toArray true) :: k) e w :=
  Run.regionH _ _ (fun e w ⟨x, h1, h2⟩ => Run.weaken h1 (hpost x w h2)) hm hl hr (h _ hS.drew)
end
end
end Go.Proofs.Ythejfodjielahaa
