/-
  What the operations on memory do to what is owned. Holds of every program.
-/
import Derived.Test.YthejfodjielahaaOps
namespace Go.Proofs.Ythejfodjielahaa
set_option maxRecDepth 8000
set_option linter.unusedSimpArgs false
set_option linter.unusedVariables false
open Go Go.RowKit

/-- A block that may be read: it is owned, or read alone. -/
inductive Rd (ρ : List (Nat × Obj)) (σ : List HP) (b : Nat) (o : Obj) : Prop
  | own : Has (Blk b o) σ → Rd ρ σ b o
  | ro : (b, o) ∈ ρ → Rd ρ σ b o

theorem Rd.tail {ρ : List (Nat × Obj)} {σ : List HP} {A : HP} {b : Nat} {o : Obj} (h : Rd ρ σ b o) : Rd ρ (A :: σ) b o := by
  cases h with
  | own h => exact .own (.tail h)
  | ro h => exact .ro h

theorem St.rd {we w : World} {ρ : List (Nat × Obj)} {σ : List HP} (h : St we ρ σ w) {b : Nat} {o : Obj} (hr : Rd ρ σ b o) : w.heap[b]? = some o := by
  cases hr with
  | own h1 => exact h.lt h1
  | ro h1 => exact h.ro _ h1

theorem cell_of {w : World} {b : Nat} {l : List Value} {el : TypeId} {fr : Nat × Nat} (h : w.heap[b]? = some (.cells l.toArray el fr)) {off : Nat} {v : Value} (hv : l[off]? = some v) : w.cell? ⟨b, off, none⟩ = some v := by
  simp [World.cell?, h, hv]

/-- A value of one cell. -/
def one (v : Value) : Bool := match v with | .agg _ => false | .tuple _ => false | _ => true
theorem one_oneCell {v : Value} (h : one v = true) : v.oneCell' = true := by cases v <;> simp_all [one, Value.oneCell']
theorem one_cells {v : Value} (h : one v = true) : v.cells = #[v] := by cases v <;> simp_all [one, Value.cells]

section
variable {P : Program} {f : FuncId} {n : Nat} {R : Ending → World → Prop} {k : List Item} {e : Env} {ty : TypeId} {x y : Operand} {u v : Value}
variable {we w : World} {ρ : List (Nat × Obj)} {σ σ' : List HP} {d : Nat} {pos : String} {aft : Array Edge} {gd : Option (Nat × Bool)} {K : Env → World → Prop}

theorem run_loadScalar {t : TypeId} {p : Addr} (ha : aggB P t = some false) (hc : w.cell? p = some v) : (loadVar t p).run P w = .ok v w := by
  simp [loadVar, run_isAgg ha, hc]

theorem run_loadAgg {t : TypeId} {b off m : Nat} {l : List Value} {el : TypeId} {fr : Nat × Nat} {vs : List Value} (ha : aggB P t = some true) (hs : sizeB P t = some m)
    (h : w.heap[b]? = some (.cells l.toArray el fr)) (hv : (l.drop off).take m = vs) (hl : vs.length = m) : (loadVar t ⟨b, off, none⟩).run P w = .ok (.agg vs.toArray) w := by
  have h1 := run_loadCells_list (P := P) w ⟨b, off, none⟩ vs (fun j u hj => by
    rw [Addr.add_lit]
    refine cell_of h ?_
    rw [← hv, List.getElem?_take] at hj
    split at hj
    · simpa using hj
    · cases hj)
  rw [hl] at h1
  simp [loadVar, run_isAgg ha, run_sizeOf hs, h1]

theorem Still.load {t : TypeId} {b off : Nat} {l : List Value} {el : TypeId} {fr : Nat × Nat} (hx : ev e x = some (.pointer (some ⟨b, off, none⟩))) (ha : aggB P t = some false)
    (hr : Rd ρ σ b (.cells l.toArray el fr)) (hv : l[off]? = some v) : Still P n e (St we ρ σ) (.load t x) ty v := Still.mk fun a w hok hS _ pos aft g => by
  have h1 := run_loadScalar (P := P) ha (cell_of (hS.rd hr) hv)
  simp only [execOp, hok.ev hx, Instr.loadAt, Instr.sureAddr, Sem.run_bind, Sem.run_pure, Result.andThen_ok, h1]

theorem Still.loadAgg {t : TypeId} {b off m : Nat} {l : List Value} {el : TypeId} {fr : Nat × Nat} {vs : List Value} (hx : ev e x = some (.pointer (some ⟨b, off, none⟩))) (ha : aggB P t = some true) (hs : sizeB P t = some m)
    (hr : Rd ρ σ b (.cells l.toArray el fr)) (hv : (l.drop off).take m = vs) (hl : vs.length = m) : Still P n e (St we ρ σ) (.load t x) ty (.agg vs.toArray) := Still.mk fun a w hok hS _ pos aft g => by
  have h1 := run_loadAgg (P := P) ha hs (hS.rd hr) hv hl
  simp only [execOp, hok.ev hx, Instr.loadAt, Instr.sureAddr, Sem.run_bind, Sem.run_pure, Result.andThen_ok, h1]

theorem OP.box {t : TypeId} {l : List Value} (hS : St we ρ σ w) (hx : ev e x = some v) (hv : v.cells = l.toArray) (hd : Nat.blt d n = true)
    (hk : ∀ b w1, St we ρ (Row b l t :: σ) w1 → K ((d, .pointer (some ⟨b, 0, none⟩)) :: e) w1) : OP P n ⟨some d, .box t x, ty, pos, aft, gd⟩ e w K :=
  OP.put (fun a ha => by
    simp only [execOp, ha.ev hx, Instr.box, newVar, newRow, Sem.run_bind, Sem.run_pure, Result.andThen_ok, run_newObj, hv, World.alloc_eq]) hd (hk _ _ (hS.alloc _))

theorem OP.alloc {t : TypeId} {z : Value} {l : List Value} (hS : St we ρ σ w) (hz : zeroB P t = some z) (hv : z.cells = l.toArray) (hd : Nat.blt d n = true)
    (hk : ∀ b w1, St we ρ (Row b l t :: σ) w1 → K ((d, .pointer (some ⟨b, 0, none⟩)) :: e) w1) : OP P n ⟨some d, .alloc t, ty, pos, aft, gd⟩ e w K :=
  OP.put (fun a ha => by
    simp only [execOp, Instr.alloc, run_zero hz, newVar, newRow, Sem.run_bind, Sem.run_pure, Result.andThen_ok, run_newObj, hv, World.alloc_eq]) hd (hk _ _ (hS.alloc _))

theorem OP.makeMap {t : TypeId} (hS : St we ρ σ w) (hd : Nat.blt d n = true)
    (hk : ∀ b w1, St we ρ (Blk b (.map #[] 0) :: σ) w1 → K ((d, .map (some b)) :: e) w1) : OP P n ⟨some d, .makeMap t none, ty, pos, aft, gd⟩ e w K :=
  OP.put (fun a ha => by
    simp [execOp, Instr.makeMap]) hd (hk _ _ (hS.alloc _))

theorem run_storeCells (b : Nat) (t : TypeId) : ∀ (vs : List Value) (off i : Nat) (l : List Value) (w : World), w.heap[b]? = some (.cells l.toArray t (0, 0)) → off + i + vs.length ≤ l.length → (∀ v ∈ vs, one v = true) →
    ∃ w', (storeCells ⟨b, off, none⟩ vs i).run P w = .ok () w' ∧ w'.heap[b]? = some (.cells (l.take (off + i) ++ vs ++ l.drop (off + i + vs.length)).toArray t (0, 0)) ∧
      (∀ k, k ≠ b → w'.heap[k]? = w.heap[k]?) ∧ w'.heap.size = w.heap.size ∧ w'.os = w.os ∧ w'.tape = w.tape ∧ w'.output = w.output
  | [], off, i, l, w, h, _, _ => ⟨w, rfl, by simpa using h, fun _ _ => rfl, rfl, rfl, rfl, rfl⟩
  | v :: vs, off, i, l, w, h, hl, h1 => by
    simp only [List.length_cons] at hl
    have hc : w.cell? ⟨b, off + i, none⟩ = some (l[off + i]'(by omega)) := cell_of h (List.getElem?_eq_getElem (by omega))
    have hf : w.frozen? ⟨b, off + i, none⟩ = false := by simp [World.frozen?, h]
    have hst : (store ((⟨b, off, none⟩ : Addr).add i) v).run P w = .ok () (w.setCell ⟨b, off + i, none⟩ v) := by
      rw [Addr.add_lit, run_store P w _ v _ (one_oneCell (h1 v (by simp))), hc]
      simp [hf]
    have hb : (w.setCell ⟨b, off + i, none⟩ v).heap[b]? = some (.cells (l.set (off + i) v).toArray t (0, 0)) := by
      have hlt : b < w.heap.size := (Array.getElem?_eq_some_iff.1 h).1
      simp only [World.setCell, Array.getElem?_modify, if_true, h, Option.map_some]
      simp
    obtain ⟨w', e1, e2, e3, e4, e5, e6, e7⟩ := run_storeCells b t vs off (i + 1) (l.set (off + i) v) _ hb (by simp; omega) (fun u hu => h1 u (by simp [hu]))
    refine ⟨w', by simp only [storeCells, Sem.run_bind, hst, Result.andThen_ok, e1], ?_, fun k hk => ?_, by rw [e4]; simp, e5, e6, e7⟩
    · rw [e2]
      congr 3
      simp only [List.length_cons]
      apply List.ext_getElem?
      intro j
      simp only [List.getElem?_append, List.length_take, List.length_set, List.length_append, List.length_cons, List.getElem?_take, List.getElem?_drop, List.getElem?_set]
      by_cases c1 : j < off + i
      · have c2 : j < off + (i + 1) := by omega
        have c3 : min (off + i) l.length = off + i := by omega
        have c4 : min (off + (i + 1)) l.length = off + (i + 1) := by omega
        simp only [c3, c4]
        rw [if_pos (by omega), if_pos (by omega), if_pos c2, if_neg (by omega), if_pos (by omega), if_pos (by omega), if_pos c1]
      · have c3 : min (off + i) l.length = off + i := by omega
        have c4 : min (off + (i + 1)) l.length = off + (i + 1) := by omega
        simp only [c3, c4]
        by_cases c5 : j = off + i
        · subst c5
          rw [if_pos (by omega), if_pos (by omega), if_pos (by omega), if_pos rfl, if_pos (by omega), if_pos (by omega), if_neg (by omega)]
          simp
        · by_cases c6 : j < off + (i + 1) + vs.length
          · rw [if_pos (by omega), if_neg (by omega), if_pos (by omega), if_neg (by omega)]
            rw [show j - (off + i) = (j - (off + (i + 1))) + 1 by omega, List.getElem?_cons_succ]
          · rw [if_neg (by omega), if_neg (by omega), if_neg (by omega)]
            congr 1
            omega
    · rw [e3 k hk]
      exact Below.heap_setCell _ _ _ _ hk

/-- A value is stored into a row: so many cells of it are turned. -/
theorem OP.store {t : TypeId} {b off : Nat} {el : TypeId} {l l' vs : List Value} (hS : St we ρ σ w) (hx : ev e x = some (.pointer (some ⟨b, off, none⟩))) (hy : ev e y = some v) (hv : v.cells = vs.toArray)
    (hs : sizeB P t = some vs.length) (h1 : vs.all one = true) (hp : Put (Row b l el) (Row b l' el) σ σ') (hl : Nat.ble (off + vs.length) l.length = true) (hl' : l.take off ++ vs ++ l.drop (off + vs.length) = l')
    (hk : ∀ w1, St we ρ σ' w1 → K e w1) : OP P n ⟨none, .store t x y, ty, pos, aft, gd⟩ e w K := by
  subst hl'
  have hb := hS.lt hp.has
  obtain ⟨w', e1, e2, e3, e4, e5, e6, e7⟩ := run_storeCells (P := P) b el vs off 0 l w hb (by simpa using hl) (by simpa using h1)
  refine OP.act (w' := w') (fun a ha => ?_) (hk w' (hS.write hp e5 e6 e7 e4 (by simpa using e2) e3))
  simp only [execOp, ha.ev hx, ha.ev hy, Instr.storeAt, Instr.sureAddr, Sem.run_bind, Sem.run_pure, Result.andThen_ok, storeVar, run_sizeOf hs, hv, List.size_toArray]
  simp [e1]

/-- The parts of a literal, their values known. -/
def evParts (e : Env) : List (Nat × Operand) → Option (List (Nat × Value))
  | [] => some []
  | (i, o) :: l => match ev e o, evParts e l with
    | some v, some r => some ((i, v) :: r)
    | _, _ => none
theorem evParts_run {a : Act} (ha : Ok n e a) : ∀ {l : List (Nat × Operand)} {r : List (Nat × Value)}, evParts e l = some r → l.map (fun (i, o) => (i, a.eval o)) = r
  | [], r, h => by simp [evParts] at h; simp [h]
  | (i, o) :: l, r, h => by
    simp only [evParts] at h
    cases ho : ev e o with
    | none => simp [ho] at h
    | some v =>
      cases hl : evParts e l with
      | none => simp [ho, hl] at h
      | some r' => simp [ho, hl] at h; subst h; simp [ha.ev ho, evParts_run ha hl]

/-- The cells of a slice's literal. -/
def builtRow (P : Program) (t : TypeId) (len : Nat) (vs : List (Nat × Value)) : Option (Array Value) :=
  match P.info? t with
  | some i => match i.zero with
    | some z => if len * i.size > 2 ^ 24 then none else Instr.fill (fun j => some (j * i.size, i.size)) ((List.range (len * i.size)).map fun j => z.cells[j % z.cells.size]!).toArray vs
    | none => none
  | none => none

theorem run_buildSlice {t el : TypeId} {len : Nat} {vs : List (Nat × Value)} {l : List Value} (ht : elemB P t = some el) (hb : builtRow P el len vs = some l.toArray) (w : World) :
    (Instr.buildSlice t len vs.toArray).run P w = .ok (.slice (some ⟨w.heap.size, 0, none⟩) len len) (w.alloc (.cells l.toArray el)) := by
  unfold builtRow at hb
  have hrange : ∀ (m : Nat) (z : Array Value), ((List.range m).map fun j => z[j % z.size]!).toArray = (Array.range m).map (z[· % z.size]!) := fun m z => by
    apply Array.ext'
    simp
  simp only [hrange] at hb
  cases hi : P.info? el with
  | none => simp [hi] at hb
  | some i =>
    cases hz : i.zero with
    | none => simp [hi, hz] at hb
    | some z =>
      simp only [hi, hz] at hb
      split at hb
      · cases hb
      · rename_i h24
        by_cases h0 : len * i.size = 0
        · rw [h0] at hb
          have hr : ∀ g : Nat → Value, Array.map g (Array.range 0) = #[] := fun g => by rw [Array.range_zero']; exact Array.map_empty
          rw [hr] at hb
          simp only [Instr.buildSlice, run_underlying (run_elem ht), sizeOf, typeInfo, hi, Sem.run_bind, Sem.run_pure, Result.andThen_ok, run_program, Sem.run_ite, h0, if_true, newRow, hr, hb]
          simp
        · have hb' : Instr.fill (fun i_1 => some (i_1 * i.size, i.size)) (Array.map (fun x => z.cells[x % z.cells.size]!) (Array.range (len * i.size))) vs = some l.toArray := hb
          have h3 : ¬ (2 ^ 24 < len * i.size) := h24
          simp only [Instr.buildSlice, run_underlying (run_elem ht), sizeOf, typeInfo, hi, Sem.run_bind, Sem.run_pure, Result.andThen_ok, run_program, Sem.run_ite, zeroValue, hz, h0, if_false, h24, newRow, run_newObj, hb', World.alloc_eq]

/-- The cells of values that stand one behind the other. -/
def rowSeq (size : Nat) : Nat → List (Nat × Value) → Option (List Value)
  | _, [] => some []
  | k, (j, v) :: r => bif Nat.beq j k && Nat.beq v.cells.size size then
      match rowSeq size (k + 1) r with
      | some l => some (v.cells.toList ++ l)
      | none => none
    else none

theorem splice_set (l vs : List Value) (v : Value) (off : Nat) (h : off + (vs.length + 1) ≤ l.length) :
    (l.set off v).take (off + 1) ++ vs ++ (l.set off v).drop (off + 1 + vs.length) = l.take off ++ (v :: vs) ++ l.drop (off + (vs.length + 1)) := by
  apply List.ext_getElem?
  intro j
  simp only [List.getElem?_append, List.length_take, List.length_set, List.length_append, List.length_cons, List.getElem?_take, List.getElem?_drop, List.getElem?_set]
  have c3 : min off l.length = off := by omega
  have c4 : min (off + 1) l.length = off + 1 := by omega
  simp only [c3, c4]
  by_cases c1 : j < off
  · rw [if_pos (by omega), if_pos (by omega), if_pos (by omega), if_neg (by omega), if_pos (by omega), if_pos c1, if_pos c1]
  · by_cases c5 : j = off
    · subst c5
      rw [if_pos (by omega), if_pos (by omega), if_pos (by omega), if_pos rfl, if_pos (by omega), if_pos (by omega), if_neg (by omega)]
      simp
    · by_cases c6 : j < off + (vs.length + 1)
      · rw [if_pos (by omega), if_neg (by omega), if_pos (by omega), if_neg (by omega)]
        rw [show j - off = (j - (off + 1)) + 1 by omega, List.getElem?_cons_succ]
      · rw [if_neg (by omega), if_neg (by omega), if_neg (by omega)]
        congr 1
        omega

theorem foldl_splice : ∀ (vs : List Value) (off i : Nat) (l : List Value), off + i + vs.length ≤ l.length →
    (vs.zipIdx i).foldl (fun (cs : Array Value) (x : Value × Nat) => cs.setIfInBounds (off + x.2) x.1) l.toArray = (l.take (off + i) ++ vs ++ l.drop (off + i + vs.length)).toArray
  | [], off, i, l, _ => by simp
  | v :: vs, off, i, l, h => by
    simp only [List.length_cons] at h
    simp only [List.zipIdx_cons, List.foldl_cons, List.setIfInBounds_toArray]
    rw [foldl_splice vs off (i + 1) (l.set (off + i) v) (by simp; omega)]
    have := splice_set l vs v (off + i) (by omega)
    rw [show off + (i + 1) = off + i + 1 by omega, this, List.length_cons]

theorem fill_seq (size : Nat) : ∀ (vs : List (Nat × Value)) (k : Nat) (cells l : List Value), rowSeq size k vs = some l → (k + vs.length) * size ≤ cells.length →
    Instr.fill (fun j => some (j * size, size)) cells.toArray vs = some (cells.take (k * size) ++ l ++ cells.drop ((k + vs.length) * size)).toArray
  | [], k, cells, l, h, _ => by simp [rowSeq] at h; subst h; simp [Instr.fill]
  | (j, v) :: r, k, cells, l, h, hl => by
    simp only [rowSeq] at h
    cases hb : Nat.beq j k && Nat.beq v.cells.size size with
    | false => rw [hb] at h; simp at h
    | true =>
      rw [hb] at h
      simp only [cond_true, Bool.and_eq_true] at h hb
      have hj : j = k := Nat.eq_of_beq_eq_true hb.1
      have hs : v.cells.size = size := Nat.eq_of_beq_eq_true hb.2
      subst hj
      cases hr : rowSeq size (j + 1) r with
      | none => rw [hr] at h; cases h
      | some l2 =>
        rw [hr] at h
        simp only [Option.some.injEq] at h
        subst h
        simp only [List.length_cons] at hl
        have hm : (j + (r.length + 1)) * size = j * size + size + r.length * size := by rw [Nat.add_mul, Nat.add_mul]; omega
        have hle : j * size + size ≤ cells.length := by rw [hm] at hl; omega
        have hcond : ¬ ((v.cells.size ≠ size || decide (j * size + v.cells.size > cells.toArray.size)) = true) := by
          simp [hs]; omega
        have h1 := foldl_splice v.cells.toList (j * size) 0 cells (by simp [hs]; omega)
        have h1' : v.cells.zipIdx.foldl (fun (cs : Array Value) (x : Value × Nat) => cs.setIfInBounds (j * size + x.2) x.1) cells.toArray = (cells.take (j * size) ++ v.cells.toList ++ cells.drop (j * size + size)).toArray := by
          rw [← Array.foldl_toList, Array.toList_zipIdx]
          simpa [hs] using h1
        have hlen : (cells.take (j * size) ++ v.cells.toList ++ cells.drop (j * size + size)).length = cells.length := by simp [hs]; omega
        have h2 := fill_seq size r (j + 1) (cells.take (j * size) ++ v.cells.toList ++ cells.drop (j * size + size)) l2 hr (by rw [hlen]; rw [show j + 1 + r.length = j + (r.length + 1) by omega]; exact hl)
        have h3 : Instr.fill (fun j => some (j * size, size)) cells.toArray ((j, v) :: r) = Instr.fill (fun j => some (j * size, size)) (v.cells.zipIdx.foldl (fun (cs : Array Value) (x : Value × Nat) => cs.setIfInBounds (j * size + x.2) x.1) cells.toArray) r := by
          rw [Instr.fill]
          simp only
          rw [if_neg hcond]
        rw [h3, h1', h2]
        congr 2
        have e1 : (j + 1) * size = j * size + size := by rw [Nat.add_mul]; omega
        have e2 : (j + 1 + r.length) * size = j * size + size + r.length * size := by rw [Nat.add_mul, Nat.add_mul]; omega
        rw [e1, e2, List.length_cons, hm]
        have e3 : (cells.take (j * size) ++ v.cells.toList ++ cells.drop (j * size + size)).take (j * size + size) = cells.take (j * size) ++ v.cells.toList := by
          rw [List.take_append_of_le_length (by simp [hs]; omega)]
          apply List.take_of_length_le
          simp [hs]; omega
        have e4 : (cells.take (j * size) ++ v.cells.toList ++ cells.drop (j * size + size)).drop (j * size + size + r.length * size) = cells.drop (j * size + size + r.length * size) := by
          rw [List.drop_append]
          have : (cells.take (j * size) ++ v.cells.toList).length = j * size + size := by simp [hs]; omega
          rw [this, List.drop_eq_nil_of_le (by rw [this]; omega), List.nil_append, List.drop_drop]
          congr 1
          omega
        rw [e3, e4]
        simp

theorem builtRow_seq {el len m : Nat} {vs : List (Nat × Value)} {l : List Value} {z : Value} (hs : sizeB P el = some m) (hz : zeroB P el = some z) (hn : vs.length = len) (h24 : Nat.ble (len * m) 16777216 = true) (h : rowSeq m 0 vs = some l) : builtRow P el len vs = some l.toArray := by
  unfold sizeB at hs
  unfold zeroB at hz
  cases hi : P.info? el with
  | none => simp [hi] at hs
  | some i =>
    simp [hi] at hs hz
    subst hn
    subst hs
    simp only [builtRow, hi, hz]
    rw [if_neg (by simp at h24; omega)]
    have := fill_seq i.size vs 0 ((List.range (vs.length * i.size)).map fun j => z.cells[j % z.cells.size]!) l h (by simp)
    rw [this]
    simp

/-- Cells laid over others. -/
def splice : List Value → Nat → List Value → Option (List Value)
  | l, 0, [] => some l
  | [], 0, _ :: _ => none
  | _ :: l, 0, v :: vs => match splice l 0 vs with
    | some r => some (v :: r)
    | none => none
  | [], _ + 1, _ => none
  | c :: l, off + 1, vs => match splice l off vs with
    | some r => some (c :: r)
    | none => none

theorem splice_spec : ∀ (l : List Value) (off : Nat) (vs r : List Value), splice l off vs = some r → off + vs.length ≤ l.length ∧ r = l.take off ++ vs ++ l.drop (off + vs.length)
  | l, 0, [], r, h => by simp [splice] at h; subst h; simp
  | [], 0, _ :: _, r, h => by simp [splice] at h
  | c :: l, 0, v :: vs, r, h => by
    simp only [splice] at h
    cases hs : splice l 0 vs with
    | none => simp [hs] at h
    | some r' =>
      simp [hs] at h
      subst h
      obtain ⟨h1, h2⟩ := splice_spec l 0 vs r' hs
      refine ⟨by simp at h1 ⊢; omega, ?_⟩
      rw [h2]
      simp
  | [], _ + 1, _, r, h => by simp [splice] at h
  | c :: l, off + 1, vs, r, h => by
    simp only [splice] at h
    cases hs : splice l off vs with
    | none => simp [hs] at h
    | some r' =>
      simp [hs] at h
      subst h
      obtain ⟨h1, h2⟩ := splice_spec l off vs r' hs
      refine ⟨by simp; omega, ?_⟩
      rw [h2]
      simp [show off + 1 + vs.length = off + vs.length + 1 by omega]

def fillL (place : Nat → Option (Nat × Nat)) : List Value → List (Nat × Value) → Option (List Value)
  | l, [] => some l
  | l, (i, v) :: r => match place i with
    | none => none
    | some (off, size) => bif Nat.beq v.cells.size size then
        match splice l off v.cells.toList with
        | some l' => fillL place l' r
        | none => none
      else none

theorem fillL_spec (place : Nat → Option (Nat × Nat)) : ∀ (vs : List (Nat × Value)) (l r : List Value), fillL place l vs = some r → Instr.fill place l.toArray vs = some r.toArray
  | [], l, r, h => by simp [fillL] at h; subst h; simp [Instr.fill]
  | (i, v) :: vs, l, r, h => by
    simp only [fillL] at h
    cases hp : place i with
    | none => simp [hp] at h
    | some x =>
      obtain ⟨off, size⟩ := x
      simp only [hp] at h
      cases hb : Nat.beq v.cells.size size with
      | false => simp [hb] at h
      | true =>
        rw [hb] at h
        simp only [cond_true] at h
        have hsz : v.cells.size = size := Nat.eq_of_beq_eq_true hb
        cases hs : splice l off v.cells.toList with
        | none => simp [hs] at h
        | some l' =>
          simp only [hs] at h
          obtain ⟨h1, h2⟩ := splice_spec l off v.cells.toList l' hs
          have h3 := foldl_splice v.cells.toList off 0 l (by simpa using h1)
          have h4 : v.cells.zipIdx.foldl (fun (cs : Array Value) (x : Value × Nat) => cs.setIfInBounds (off + x.2) x.1) l.toArray = l'.toArray := by
            rw [← Array.foldl_toList, Array.toList_zipIdx, h2]
            simpa using h3
          rw [Instr.fill]
          simp only [hp]
          rw [if_neg (by simp at h1; simp [hsz]; omega)]
          have h5 := fillL_spec place vs l' r h
          rw [← h4] at h5
          exact h5

/-- The cells of a literal, part by part. -/
def placeOf (P : Program) (fs : List Field) (i : Nat) : Option (Nat × Nat) :=
  match fs[i]? with
  | some f => match P.info? f.type with
    | some inf => some (f.offset, inf.size)
    | none => none
  | none => none
def builtL (P : Program) (t : TypeId) (vs : List (Nat × Value)) : Option (List Value) :=
  match P.info? t, P.underlying t with
  | some it, some (.array _ e) => match it.zero, P.info? e with
    | some z, some ie => fillL (fun i => some (i * ie.size, ie.size)) z.cells.toList vs
    | _, _ => none
  | some it, some (.struct fs) => match it.zero with
    | some z => if fs.toList.all (fun f => (P.info? f.type).isSome) = true then fillL (placeOf P fs.toList) z.cells.toList vs else none
    | none => none
  | _, _ => none

theorem builtL_spec {t : TypeId} {vs : List (Nat × Value)} {l : List Value} (h : builtL P t vs = some l) : P.built t vs = some l.toArray := by
  unfold builtL at h
  unfold Program.built
  cases hi : P.info? t with
  | none => simp [hi] at h
  | some it =>
    cases hu : P.underlying t with
    | none => simp [hi, hu] at h
    | some d =>
      cases d <;> simp only [hi, hu] at h ⊢ <;> try (cases h; done)
      case array len e =>
        cases hz : it.zero with
        | none => simp [hz] at h
        | some z =>
          cases hie : P.info? e with
          | none => simp [hz, hie] at h
          | some ie =>
            simp only [hz, hie] at h ⊢
            have := fillL_spec _ vs _ _ h
            simpa using this
      case struct fs =>
        cases hz : it.zero with
        | none => simp [hz] at h
        | some z =>
          simp only [hz] at h ⊢
          split at h
          · rename_i hall
            have key : ∀ (l : List Field), l.all (fun f => (P.info? f.type).isSome) = true → ∃ places, l.mapM (fun f => (P.info? f.type).map fun i => (f.offset, i.size)) = some places ∧ ∀ i, places[i]? = placeOf P l i := by
              intro l
              induction l with
              | nil => intro _; exact ⟨[], by simp, by simp [placeOf]⟩
              | cons f l ih =>
                intro hl
                simp only [List.all_cons, Bool.and_eq_true] at hl
                obtain ⟨places, h1, h2⟩ := ih hl.2
                obtain ⟨inf, hinf⟩ := Option.isSome_iff_exists.1 hl.1
                refine ⟨(f.offset, inf.size) :: places, by simp [List.mapM_cons, hinf, h1], fun i => ?_⟩
                cases i with
                | zero => simp [placeOf, hinf]
                | succ i => simpa [placeOf] using h2 i
            obtain ⟨places, h1, h2⟩ := key _ hall
            rw [h1]
            simp only
            have h3 := fillL_spec _ vs _ _ h
            have h4 : (fun x => places.toArray[x]?) = placeOf P fs.toList := by funext x; simpa using h2 x
            rw [h4]
            simpa using h3
          · cases h

theorem Still.build {t : TypeId} {parts : List (Nat × Operand)} {vs : List (Nat × Value)} {l : List Value} {S : World → Prop} (hx : evParts e parts = some vs) (hb : builtL P t vs = some l) :
    Still P n e S (.build t parts.toArray) ty (.agg l.toArray) := Still.mk fun a w ha _ d pos aft g => by
  have h1 := run_build (P := P) w t vs.toArray l.toArray (by simpa using builtL_spec hb)
  have h2 : (parts.toArray.map fun (i, x) => (i, a.eval x)) = vs.toArray := by rw [← evParts_run ha hx]; simp
  simp only [execOp, h2, Sem.run_bind, h1, Result.andThen_ok, Sem.run_pure]

theorem OP.buildSlice {t el m : TypeId} {len : Nat} {parts : List (Nat × Operand)} {vs : List (Nat × Value)} {l : List Value} {z : Value} (hS : St we ρ σ w) (ht : elemB P t = some el) (hx : evParts e parts = some vs) (hsz : sizeB P el = some m) (hz : zeroB P el = some z) (hn : vs.length = len) (h24 : Nat.ble (len * m) 16777216 = true) (hb : rowSeq m 0 vs = some l) (hd : Nat.blt d n = true)
    (hk : ∀ b w1, St we ρ (Row b l el :: σ) w1 → K ((d, .slice (some ⟨b, 0, none⟩) len len) :: e) w1) : OP P n ⟨some d, .buildSlice t len parts.toArray, ty, pos, aft, gd⟩ e w K :=
  OP.put (fun a ha => by
    have h2 : (parts.toArray.map fun (i, x) => (i, a.eval x)) = vs.toArray := by rw [← evParts_run ha hx]; simp
    simp only [execOp, h2, Sem.run_bind, run_buildSlice ht (builtRow_seq hsz hz hn h24 hb) w, Result.andThen_ok, Sem.run_pure]) hd (hk _ _ (hS.alloc _))

/-! ### Slices -/
theorem Still.indexAddr {t el : TypeId} {b off len cap m : Nat} {q : IntKind} {i : Int} {S : World → Prop} (hx : ev e x = some (.slice (some ⟨b, off, none⟩) len cap)) (hy : ev e y = some (.int q i)) (ht : elemB P t = some el) (hs : sizeB P el = some m)
    (h0 : 0 ≤ i) (h1 : i < len) {o : Nat} (ho : off + i.toNat * m = o) : Still P n e S (.indexAddr t x y) ty (.pointer (some ⟨b, o, none⟩)) := Still.mk fun a w ha _ d pos aft g => by
  subst ho
  simp only [execOp, ha.ev hx, ha.ev hy, Instr.indexAt, asIntOf, Sem.run_bind, Sem.run_pure, Result.andThen_ok, run_underlying (run_elem ht)]
  simp [h0, h1, run_sizeOf hs, Addr.add_lit]

theorem Still.index {t el : TypeId} {len m o : Nat} {q : IntKind} {i : Int} {cs : List Value} {S : World → Prop} (hx : ev e x = some (.agg cs.toArray)) (hy : ev e y = some (.int q i)) (ht : P.underlying t = some (.array len el)) (ha : aggB P el = some false) (hs : sizeB P el = some m)
    (h0 : 0 ≤ i) (h1 : i < len) (ho : 0 + i.toNat * m = o) (hv : cs[o]? = some v) : Still P n e S (.index t x y) ty v := Still.mk fun a w hok _ d pos aft g => by
  simp only [Nat.zero_add] at ho
  subst ho
  simp only [execOp, hok.ev hx, hok.ev hy, Instr.index, asIntOf, Sem.run_bind, Sem.run_pure, Result.andThen_ok, run_underlying ht]
  simp [h0, h1, run_sizeOf hs, part, run_isAgg ha, hv]

theorem Still.lenSlice {t el ty' : TypeId} {p : Option Addr} {len cap : Nat} {S : World → Prop} (hx : ev e x = some (.slice p len cap)) (ht : elemB P t = some el) :
    Still P n e S (.call { callee := .builtin .len, args := #[x], argTypes := #[t] }) ty' (.int .i64 len) := Still.mk fun a w ha _ d pos aft g => by
  simp [execOp, resolve, invoke, builtin, ha.ev hx, Builtin.len_, run_underlying (run_elem ht), goInt]
theorem Still.lenString {t ty' : TypeId} {s : ByteArray} {S : World → Prop} (hx : ev e x = some (.string s)) (ht : P.underlying t = some .string) :
    Still P n e S (.call { callee := .builtin .len, args := #[x], argTypes := #[t] }) ty' (.int .i64 s.size) := Still.mk fun a w ha _ d pos aft g => by
  simp [execOp, resolve, invoke, builtin, ha.ev hx, Builtin.len_, run_underlying ht, goInt]

/-! ### Calls -/
/-- A function of the program's own text. -/
def fnB (P : Program) (g : FuncId) : Bool :=
  match P.funcs[g]? with
  | some fn => fn.body.isSome && !(fn.name == "runtime.NumGoroutine")
  | none => false
theorem run_callFunc {g : FuncId} (h : fnB P g = true) (args : Array Value) (w : World) : (callFunc g args).run P w = .ok (.enter g args) w := by
  unfold fnB at h
  cases hf : P.funcs[g]? with
  | none => simp [hf] at h
  | some fn =>
    simp only [hf, Bool.and_eq_true, Bool.not_eq_true'] at h
    obtain ⟨h1, h2⟩ := h
    have h3 : fn.body.isNone = false := by cases hb : fn.body <;> simp_all
    simp only [callFunc, Sem.run_bind, run_program, Result.andThen_ok, hf, h2, h3]
    simp

theorem enter_call {g : FuncId} {args : List Operand} {ts : Array TypeId} {vs : List Value} (h : fnB P g = true) (hx : evs e args = some vs) {w : World} :
    ∀ a, Ok n e a → ∀ dst pos aft gd, (execOp a.eval ⟨dst, .call { callee := .value (.func g), args := args.toArray, argTypes := ts }, ty, pos, aft, gd⟩).run P w = .ok (.enter g vs.toArray) w := fun a ha dst pos aft gd => by
  have h2 := evs_arr ha hx
  have h3 : a.eval (.func g) = .func (.func g) #[] #[] := rfl
  simp only [execOp, resolve, h3, Deferred.ofValue, Sem.run_bind, Sem.run_pure, Result.andThen_ok, invoke, h2]
  simpa using run_callFunc h vs.toArray w

theorem enter_callv {g : FuncId} {fv : Operand} {args : List Operand} {ts : Array TypeId} {vs first cap : List Value} (h : fnB P g = true) (hf : ev e fv = some (.func (.func g) first.toArray cap.toArray)) (hx : evs e args = some vs) {w : World} :
    ∀ a, Ok n e a → ∀ dst pos aft gd, (execOp a.eval ⟨dst, .call { callee := .value fv, args := args.toArray, argTypes := ts }, ty, pos, aft, gd⟩).run P w = .ok (.enter g (first ++ vs ++ cap).toArray) w := fun a ha dst pos aft gd => by
  have h2 := evs_arr ha hx
  simp only [execOp, resolve, ha.ev hf, Deferred.ofValue, Sem.run_bind, Sem.run_pure, Result.andThen_ok, invoke, h2]
  simpa using run_callFunc h (first ++ vs ++ cap).toArray w

theorem OP.callF {g : FuncId} {args : List Operand} {ts : Array TypeId} {vs : List Value} {Φ : Value → World → Prop} (h : fnB P g = true) (hx : evs e args = some vs) (hd : Nat.blt d n = true)
    (hc : Cl P g vs w Φ) (hk : ∀ v w', Φ v w' → K ((d, v) :: e) w') :
    OP P n ⟨some d, .call { callee := .value (.func g), args := args.toArray, argTypes := ts }, ty, pos, aft, gd⟩ e w K :=
  OP.call (fun a ha => enter_call h hx a ha _ _ _ _) hd hc hk
theorem OP.callV {g : FuncId} {fv : Operand} {args : List Operand} {ts : Array TypeId} {vs first cap : List Value} {Φ : Value → World → Prop} (hf : ev e fv = some (.func (.func g) first.toArray cap.toArray)) (h : fnB P g = true) (hx : evs e args = some vs) (hd : Nat.blt d n = true)
    (hc : Cl P g (first ++ vs ++ cap) w Φ) (hk : ∀ v w', Φ v w' → K ((d, v) :: e) w') :
    OP P n ⟨some d, .call { callee := .value fv, args := args.toArray, argTypes := ts }, ty, pos, aft, gd⟩ e w K :=
  OP.call (fun a ha => enter_callv h hf hx a ha _ _ _ _) hd hc hk
end
end Go.Proofs.Ythejfodjielahaa
