/-
  Maps: looking up, storing, dropping, over a plain list of entries. Holds of every program.
-/
import Derived.Test.YthejfodjielahaaDraw
namespace Go.Proofs.Ythejfodjielahaa
set_option maxRecDepth 8000
set_option linter.unusedSimpArgs false
set_option linter.unusedVariables false
open Go Go.RowKit

/-- The first entry whose key is k's like. -/
def mfind (eqv : Value → Bool) : List MapEntry → Nat → Option (Nat × Value)
  | [], _ => none
  | e :: es, i => if eqv e.key = true then some (i, e.val) else mfind eqv es (i + 1)

/-- What a key type must meet: a key is held against others by 'eqv'. -/
structure KeyIs (P : Program) (kt : TypeId) (k : Value) (es : List MapEntry) (eqv : Value → Bool) : Prop where
  find : ∀ w : World, (Instr.findKey kt k es).run P w = .ok (mfind eqv es 0) w
  check : ∀ (b : Bool) (w : World), (Instr.checkKey b 10000 kt k).run P w = .ok () w

theorem findNow_eq {d : TypeDesc} {k : Value} {eqv : Value → Bool} : ∀ (es : List MapEntry) (i : Nat), (∀ e ∈ es, Instr.sameNow d k e.key = some (eqv e.key)) → Instr.findNow d k es i = some (mfind eqv es i)
  | [], _, _ => rfl
  | e :: es, i, h => by
    have h1 := h e (by simp)
    simp only [Instr.findNow, h1, mfind]
    cases hq : eqv e.key with
    | true => simp
    | false => simpa using findNow_eq es (i + 1) (fun e' he' => h e' (by simp [he']))

theorem findAsking_eq {P : Program} {kt : TypeId} {k : Value} {eqv : Value → Bool} {w : World} : ∀ (es : List MapEntry) (i : Nat), (∀ e ∈ es, (Op.equal kt k e.key).run P w = .ok (eqv e.key) w) → (Instr.findAsking kt k es i).run P w = .ok (mfind eqv es i) w
  | [], _, _ => rfl
  | e :: es, i, h => by
    have h1 := h e (by simp)
    simp only [Instr.findAsking, Sem.run_bind, h1, Result.andThen_ok, mfind, Sem.run_ite]
    cases hq : eqv e.key with
    | true => simp
    | false => simpa using findAsking_eq es (i + 1) (fun e' he' => h e' (by simp [he']))

theorem KeyIs.int {P : Program} {kt : TypeId} {q : IntKind} {k : Int} {es : List MapEntry} {f : Value → Int} (ht : P.underlying kt = some (.int q)) (hk : ∀ e ∈ es, e.key = .int q (f e.key)) :
    KeyIs P kt (.int q k) es (fun u => decide (k = f u)) := by
  refine ⟨fun w => ?_, fun b w => ?_⟩
  · have h1 := findNow_eq (d := .int q) (k := .int q k) (eqv := fun u => decide (k = f u)) es 0 (fun e he => by
      rw [hk e he]
      have := hk e he
      simp only [Instr.sameNow, if_true]
      congr 1
      rw [← this]; rfl)
    simp [Instr.findKey, run_underlying ht, h1]
  · show (Instr.checkKey b (9999 + 1) kt _).run P w = _
    rw [Instr.checkKey]
    simp only [Sem.run_bind, run_underlying ht, Result.andThen_ok]
    rfl

theorem KeyIs.bool {P : Program} {kt : TypeId} {k : Bool} {es : List MapEntry} {f : Value → Bool} (ht : P.underlying kt = some .bool) (hk : ∀ e ∈ es, e.key = .bool (f e.key)) :
    KeyIs P kt (.bool k) es (fun u => k == f u) := by
  refine ⟨fun w => ?_, fun b w => ?_⟩
  · have h1 := findNow_eq (d := .bool) (k := .bool k) (eqv := fun u => k == f u) es 0 (fun e he => by
      rw [hk e he]
      have := hk e he
      simp only [Instr.sameNow]
      rw [← this])
    simp [Instr.findKey, run_underlying ht, h1]
  · show (Instr.checkKey b (9999 + 1) kt _).run P w = _
    rw [Instr.checkKey]
    simp only [Sem.run_bind, run_underlying ht, Result.andThen_ok]
    rfl

theorem KeyIs.string {P : Program} {kt : TypeId} {k : ByteArray} {es : List MapEntry} {f : Value → ByteArray} (ht : P.underlying kt = some .string) (hk : ∀ e ∈ es, e.key = .string (f e.key)) :
    KeyIs P kt (.string k) es (fun u => decide (k = f u)) := by
  refine ⟨fun w => ?_, fun b w => ?_⟩
  · have h1 := findNow_eq (d := .string) (k := .string k) (eqv := fun u => decide (k = f u)) es 0 (fun e he => by
      rw [hk e he]
      have := hk e he
      simp only [Instr.sameNow]
      rw [← this, ← bytes_eq, beq_toListBytes])
    simp [Instr.findKey, run_underlying ht, h1]
  · show (Instr.checkKey b (9999 + 1) kt _).run P w = _
    rw [Instr.checkKey]
    simp only [Sem.run_bind, run_underlying ht, Result.andThen_ok]
    rfl

/-- What a look-up finds. -/
def found (z : Value) : Option (Nat × Value) → Value × Bool
  | some (_, v) => (v, true)
  | none => (z, false)

section
variable {P : Program} {f : FuncId} {n : Nat} {R : Ending → World → Prop} {k : List Item} {e : Env} {ty : TypeId} {x y z : Operand} {u v : Value}
variable {we w : World} {ρ : List (Nat × Obj)} {σ σ' : List HP} {d : Nat} {pos : String} {aft : Array Edge} {gd : Option (Nat × Bool)} {K : Env → World → Prop}

theorem run_lookup {t kt et : TypeId} {m clock : Nat} {es : List MapEntry} {key zv : Value} {eqv : Value → Bool} {ok : Bool} (ht : P.underlying t = some (.map kt et)) (hz : zeroB P et = some zv) (hk : KeyIs P kt key es eqv) (hm : w.heap[m]? = some (.map es.toArray clock)) :
    (Instr.lookup t (.map (some m)) key ok).run P w = .ok (if ok then .tuple #[(found zv (mfind eqv es 0)).1, .bool (found zv (mfind eqv es 0)).2] else (found zv (mfind eqv es 0)).1) w := by
  have h1 : (getObj m).run P w = .ok (.map es.toArray clock) w := by simp [getObj, Sem.run, hm]
  simp only [Instr.lookup, Sem.run_bind, run_underlying ht, Result.andThen_ok, h1, hk.check, hk.find, Sem.run_pure]
  cases hf : mfind eqv es 0 with
  | none => cases ok <;> simp [run_zero hz, found]
  | some r => cases ok <;> simp [found]

theorem Still.lookup {t kt et : TypeId} {m clock : Nat} {es : List MapEntry} {key zv : Value} {eqv : Value → Bool} (hx : ev e x = some (.map (some m))) (hy : ev e y = some key) (ht : P.underlying t = some (.map kt et)) (hz : zeroB P et = some zv)
    (hm : Rd ρ σ m (.map es.toArray clock)) (hk : KeyIs P kt key es eqv) {r : Option (Nat × Value)} (hr : mfind eqv es 0 = r) (hv : (found zv r).1 = v) : Still P n e (St we ρ σ) (.lookup t x y false) ty v := Still.mk fun a w ha hS d pos aft g => by
  subst hr; subst hv
  simp only [execOp, ha.ev hx, ha.ev hy, Sem.run_bind, run_lookup ht hz hk (hS.rd hm), Result.andThen_ok, Sem.run_pure]
  rfl
theorem Still.lookupOk {t kt et : TypeId} {m clock : Nat} {es : List MapEntry} {key zv : Value} {eqv : Value → Bool} (hx : ev e x = some (.map (some m))) (hy : ev e y = some key) (ht : P.underlying t = some (.map kt et)) (hz : zeroB P et = some zv)
    (hm : Rd ρ σ m (.map es.toArray clock)) (hk : KeyIs P kt key es eqv) {r : Option (Nat × Value)} (hr : mfind eqv es 0 = r) {b : Bool} (hv : found zv r = (v, b)) : Still P n e (St we ρ σ) (.lookup t x y true) ty (.tuple #[v, .bool b]) := Still.mk fun a w ha hS d pos aft g => by
  subst hr
  simp only [execOp, ha.ev hx, ha.ev hy, Sem.run_bind, run_lookup ht hz hk (hS.rd hm), Result.andThen_ok, Sem.run_pure, hv]
  rfl

theorem Still.lenMap {t kt et ty' : TypeId} {m clock : Nat} {es : List MapEntry} (hx : ev e x = some (.map (some m))) (ht : P.underlying t = some (.map kt et)) (hm : Rd ρ σ m (.map es.toArray clock)) :
    Still P n e (St we ρ σ) (.call { callee := .builtin .len, args := #[x], argTypes := #[t] }) ty' (.int .i64 es.length) := Still.mk fun a w ha hS d pos aft g => by
  have h1 : (getObj m).run P w = .ok (.map es.toArray clock) w := by simp [getObj, Sem.run, hS.rd hm]
  simp [execOp, resolve, invoke, builtin, ha.ev hx, Builtin.len_, run_underlying ht, h1, goInt]

/-- What a store makes of the entries. -/
def mput (eqv : Value → Bool) (key v : Value) (es : List MapEntry) (clock : Nat) : List MapEntry × Nat :=
  match mfind eqv es 0 with
  | some (i, _) => (es.modify i fun e => { e with key, val := v }, clock)
  | none => (es ++ [⟨key, v, clock⟩], clock + 1)

theorem mfind_some {eqv : Value → Bool} : ∀ {es : List MapEntry} {i j : Nat} {v : Value}, mfind eqv es i = some (j, v) → ∃ e, i ≤ j ∧ es[j - i]? = some e ∧ eqv e.key = true ∧ e.val = v
  | [], _, _, _, h => by simp [mfind] at h
  | e :: es, i, j, v, h => by
    simp only [mfind] at h
    split at h
    · simp at h; obtain ⟨rfl, rfl⟩ := h; exact ⟨e, by omega, by simp, by assumption, rfl⟩
    · obtain ⟨e', h1, h2, h3, h4⟩ := mfind_some h
      refine ⟨e', by omega, ?_, h3, h4⟩
      rw [show j - i = (j - (i + 1)) + 1 by omega, List.getElem?_cons_succ]
      exact h2

theorem run_setObj {m clock : Nat} {es : Array MapEntry} {o : Obj} (hm : w.heap[m]? = some (.map es clock)) : (setObj m o).run P w = .ok () { w with heap := w.heap.setIfInBounds m o } := by
  simp [setObj, Sem.run, hm]

theorem run_mapUpdate {t kt et : TypeId} {m clock : Nat} {es : List MapEntry} {key val : Value} {eqv : Value → Bool} (ht : P.underlying t = some (.map kt et)) (hk : KeyIs P kt key es eqv) (hb : ∀ e ∈ es, eqv e.key = true → Instr.sameBits 10000 e.key key = true)
    (hm : w.heap[m]? = some (.map es.toArray clock)) :
    (Instr.mapUpdate t (.map (some m)) key val).run P w = .ok () { w with heap := w.heap.setIfInBounds m (.map (mput eqv key val es clock).1.toArray (mput eqv key val es clock).2) } := by
  have h1 : (getObj m).run P w = .ok (.map es.toArray clock) w := by simp [getObj, Sem.run, hm]
  simp only [Instr.mapUpdate, Sem.run_bind, run_underlying ht, Result.andThen_ok, h1, hk.check, hk.find]
  cases hf : mfind eqv es 0 with
  | none =>
    simp only [mput, hf, run_setObj hm]
    simp
  | some r =>
    obtain ⟨i, v0⟩ := r
    obtain ⟨e0, _, h2, h3, h4⟩ := mfind_some hf
    simp only [Nat.sub_zero] at h2
    have h5 : (es.toArray[i]?).map (·.key) = some e0.key := by simp [h2]
    have h6 := hb e0 (List.mem_of_getElem? h2) h3
    simp only [h5, Option.getD_some, Instr.keyThatStays, h6, if_true, Sem.run_bind, Sem.run_pure, Result.andThen_ok, run_setObj hm, mput, hf]
    have h7 : ∀ g : MapEntry → MapEntry, es.toArray.modify i g = (es.modify i g).toArray := fun g => by
      apply Array.ext'
      simp
    rw [h7]

theorem OP.mapUpdate {t kt et : TypeId} {m clock c2 : Nat} {es es2 : List MapEntry} {key val : Value} {eqv : Value → Bool} (hS : St we ρ σ w) (hx : ev e x = some (.map (some m))) (hy : ev e y = some key) (hz : ev e z = some val) (ht : P.underlying t = some (.map kt et))
    (hp : Put (Blk m (.map es.toArray clock)) (Blk m (.map es2.toArray c2)) σ σ') (hk : KeyIs P kt key es eqv) (hb : ∀ e ∈ es, eqv e.key = true → Instr.sameBits 10000 e.key key = true) (he : mput eqv key val es clock = (es2, c2))
    (hK : ∀ w1, St we ρ σ' w1 → K e w1) : OP P n ⟨none, .mapUpdate t x y z, ty, pos, aft, gd⟩ e w K := by
  have hm := hS.lt hp.has
  have hlt : m < w.heap.size := (Array.getElem?_eq_some_iff.1 hm).1
  have h1 := run_mapUpdate (P := P) (val := val) ht hk hb hm
  rw [he] at h1
  refine OP.act (fun a ha => ?_) (hK { w with heap := w.heap.setIfInBounds m (.map es2.toArray c2) } (hS.write hp rfl rfl rfl (by simp) (by simp [hlt]) (fun k hk => by simp [Array.getElem?_setIfInBounds, Ne.symm hk])))
  simp only [execOp, ha.ev hx, ha.ev hy, ha.ev hz, Sem.run_bind, h1, Result.andThen_ok, Sem.run_pure]
theorem OP.insert {t kt et : TypeId} {m clock c2 : Nat} {es es2 : List MapEntry} {key val : Value} {eqv : Value → Bool} (hS : St we ρ σ w) (hx : ev e x = some (.map (some m))) (hy : ev e y = some key) (hz : ev e z = some val) (ht : P.underlying t = some (.map kt et))
    (hp : Put (Blk m (.map es.toArray clock)) (Blk m (.map es2.toArray c2)) σ σ') (hk : KeyIs P kt key es eqv) (hb : ∀ e ∈ es, eqv e.key = true → Instr.sameBits 10000 e.key key = true) (he : mput eqv key val es clock = (es2, c2))
    (hK : ∀ w1, St we ρ σ' w1 → K e w1) : OP P n ⟨none, .insert t x y z, ty, pos, aft, gd⟩ e w K := by
  have hm := hS.lt hp.has
  have hlt : m < w.heap.size := (Array.getElem?_eq_some_iff.1 hm).1
  have h1 := run_mapUpdate (P := P) (val := val) ht hk hb hm
  rw [he] at h1
  refine OP.act (fun a ha => ?_) (hK { w with heap := w.heap.setIfInBounds m (.map es2.toArray c2) } (hS.write hp rfl rfl rfl (by simp) (by simp [hlt]) (fun k hk => by simp [Array.getElem?_setIfInBounds, Ne.symm hk])))
  simp only [execOp, ha.ev hx, ha.ev hy, ha.ev hz, Sem.run_bind, h1, Result.andThen_ok, Sem.run_pure]
end
end Go.Proofs.Ythejfodjielahaa
