/-
  Ops that the later layers need: min, max, what is held against nil, interfaces, a map's clone. Holds of every program.
-/
import Derived.Test.YthejfodjielahaaVec
import Derived.Laws.Externs
namespace Go.Proofs.Ythejfodjielahaa
set_option maxRecDepth 8000
set_option linter.unusedSimpArgs false
set_option linter.unusedVariables false
open Go Go.RowKit

section
variable {P : Program} {f : FuncId} {n : Nat} {R : Ending → World → Prop} {k : List Item} {e : Env} {ty : TypeId} {x y z : Operand} {u v : Value}
variable {we w : World} {ρ : List (Nat × Obj)} {σ σ' F : List HP} {d : Nat} {pos : String} {aft : Array Edge} {gd : Option (Nat × Bool)} {K : Env → World → Prop}

theorem Still.maxI {q : IntKind} {i j c : Int} {ts : Array TypeId} {S : World → Prop} (hx : ev e x = some (.int q i)) (hy : ev e y = some (.int q j)) (hc : (if j > i then j else i) = c) :
    Still P n e S (.call { callee := .builtin .max, args := #[x, y], argTypes := ts }) ty (.int q c) := Still.mk fun a w ha _ d pos aft g => by
  subst hc
  simp [execOp, resolve, invoke, builtin, ha.ev hx, ha.ev hy, Builtin.max_, Builtin.max2]
theorem Still.minI {q : IntKind} {i j c : Int} {ts : Array TypeId} {S : World → Prop} (hx : ev e x = some (.int q i)) (hy : ev e y = some (.int q j)) (hc : (if j < i then j else i) = c) :
    Still P n e S (.call { callee := .builtin .min, args := #[x, y], argTypes := ts }) ty (.int q c) := Still.mk fun a w ha _ d pos aft g => by
  subst hc
  simp [execOp, resolve, invoke, builtin, ha.ev hx, ha.ev hy, Builtin.min_, Builtin.min2]

theorem run_equalIn_slice_nil' {dd : Nat} {t el : TypeId} {p : Option Addr} {l c : Nat} (h : P.underlying t = some (.slice el)) : (Op.equalIn (dd + 1) t (.slice p l c) (.slice none 0 0)).run P w = .ok p.isNone w := by
  cases p <;> simp [Op.equalIn, run_underlying h]
theorem run_equal_slice_nil' {t el : TypeId} {p : Option Addr} {l c : Nat} (h : P.underlying t = some (.slice el)) : (Op.equal t (.slice p l c) (.slice none 0 0)).run P w = .ok p.isNone w := run_equalIn_slice_nil' (dd := 9999) h
theorem run_equalIn_map_nil {dd : Nat} {t kt et : TypeId} {p : Option Nat} (h : P.underlying t = some (.map kt et)) : (Op.equalIn (dd + 1) t (.map p) (.map none)).run P w = .ok p.isNone w := by
  cases p <;> simp [Op.equalIn, run_underlying h]
theorem Still.sliceNil {t el t' : TypeId} {p : Option Addr} {l c : Nat} {b : Bool} {S : World → Prop} (hx : ev e x = some (.slice p l c)) (hy : ev e y = some (.slice none 0 0)) (ht : elemB P t = some el) (hb : p.isNone = b) :
    Still P n e S (.binOp .eql t x y t') ty (.bool b) := by
  subst hb
  refine Still.bin hx hy (fun w => rfl) (fun w _ => ?_)
  have h1 : (Op.equal t (.slice p l c) (.slice none 0 0)).run P w = .ok p.isNone w := run_equal_slice_nil' (run_elem ht)
  simp [binOp, h1]
theorem Still.sliceNotNil {t el t' : TypeId} {p : Option Addr} {l c : Nat} {b : Bool} {S : World → Prop} (hx : ev e x = some (.slice p l c)) (hy : ev e y = some (.slice none 0 0)) (ht : elemB P t = some el) (hb : p.isSome = b) :
    Still P n e S (.binOp .neq t x y t') ty (.bool b) := by
  subst hb
  refine Still.bin hx hy (fun w => rfl) (fun w _ => ?_)
  have h1 : (Op.equal t (.slice p l c) (.slice none 0 0)).run P w = .ok p.isNone w := run_equal_slice_nil' (run_elem ht)
  cases p <;> simp [binOp, h1]
theorem run_equal_map_nil {t kt et : TypeId} {p : Option Nat} (h : P.underlying t = some (.map kt et)) : (Op.equal t (.map p) (.map none)).run P w = .ok p.isNone w := run_equalIn_map_nil (dd := 9999) h
theorem Still.mapNil {t kt et t' : TypeId} {p : Option Nat} {b : Bool} {S : World → Prop} (hx : ev e x = some (.map p)) (hy : ev e y = some (.map none)) (ht : P.underlying t = some (.map kt et)) (hb : p.isNone = b) :
    Still P n e S (.binOp .eql t x y t') ty (.bool b) := by
  subst hb
  refine Still.bin hx hy (fun w => rfl) (fun w _ => ?_)
  simp [binOp, run_equal_map_nil (P := P) (w := w) (p := p) ht]
theorem Still.ptrNil {t t' : TypeId} {p : Option Addr} {b : Bool} {S : World → Prop} (hx : ev e x = some (.pointer p)) (hy : ev e y = some (.pointer none)) (ht : P.underlying t = some (.pointer (P.pointee t))) (hb : p.isNone = b) :
    Still P n e S (.binOp .eql t x y t') ty (.bool b) := by
  subst hb
  refine Still.bin hx hy (fun w => rfl) (fun w _ => ?_)
  simp [binOp, run_equal_pointer_nil (P := P) w t p ht]
theorem run_typeAssert_map {t xt kt et : TypeId} (h : P.underlying t = some (.map kt et)) : (Instr.typeAssert (.iface t v) xt t false).run P w = .ok v w := by
  simp [Instr.typeAssert, run_underlying h]
theorem run_clone {r clock : Nat} {es : Array MapEntry} {t : TypeId} (hb : w.heap[r]? = some (.map es clock)) :
    (Extern.MapsClone.clone #[.iface t (.map (some r))]).run P w = .ok (.iface t (.map (some w.heap.size))) (w.alloc (.map es clock)) := by
  have h1 : (getObj r).run P w = .ok (.map es clock) w := by simp [getObj, Sem.run, hb]
  have h2 : Extern.MapsClone.clone #[.iface t (.map (some r))] = (getObj r >>= fun o => match o with
      | .map entries clock => (newObj (.map entries clock) >>= fun n => pure (.iface t (.map (some n))))
      | _ => stuck "maps.clone: a map expected") := rfl
  rw [h2]
  simp [h1]
theorem Still.makeInterface {t : TypeId} {S : World → Prop} (hx : ev e x = some v) (ht : P.concrete t = true) : Still P n e S (.makeInterface t x) ty (.iface t v) := Still.mk fun a w ha _ d pos aft g => by
  simp only [execOp, ha.ev hx, Sem.run_bind, run_makeInterface w t v ht, Result.andThen_ok, Sem.run_pure]
theorem Still.assertMap {t xt kt et : TypeId} {S : World → Prop} (hx : ev e x = some (.iface t v)) (ht : P.underlying t = some (.map kt et)) : Still P n e S (.typeAssert x xt t false) ty v := Still.mk fun a w ha _ d pos aft g => by
  simp only [execOp, ha.ev hx, Sem.run_bind, run_typeAssert_map (P := P) (w := w) (xt := xt) (v := v) ht, Result.andThen_ok, Sem.run_pure]

/-- A map's clone. -/
theorem OP.cloneMap {g : FuncId} {fn : Func} {t : TypeId} {m clock : Nat} {es : Array MapEntry} {ts : Array TypeId} (hS : St we ρ σ w) (hx : ev e x = some (.iface t (.map (some m)))) (hf : P.funcs[g]? = some fn) (hname : (fn.name == "runtime.NumGoroutine") = false)
    (hb : fn.body.isNone = true) (hn : Extern.findNext fn = none) (he : Extern.find fn = some Extern.MapsClone.clone) (hm : Rd ρ σ m (.map es clock)) (hd : Nat.blt d n = true)
    (hk : ∀ b w1, St we ρ (Blk b (.map es clock) :: σ) w1 → K ((d, .iface t (.map (some b))) :: e) w1) :
    OP P n ⟨some d, .call { callee := .value (.func g), args := #[x], argTypes := ts }, ty, pos, aft, gd⟩ e w K :=
  OP.put (fun a ha => by
    have h3 : a.eval (.func g) = .func (.func g) #[] #[] := rfl
    have h4 := run_callFunc_extern hf hname hb hn he #[.iface t (.map (some m))] w
    rw [run_clone (t := t) (hS.rd hm)] at h4
    simp only [execOp, resolve, h3, Deferred.ofValue, Sem.run_bind, Sem.run_pure, Result.andThen_ok, invoke]
    simpa [ha.ev hx] using h4) hd (hk _ _ (hS.alloc _))
end
end Go.Proofs.Ythejfodjielahaa
