/-
  Nodes as keys of a map, and as values that are held against each other; what an append makes of a row.
-/
import Derived.Test.YthejfodjielahaaArena
import Derived.Test.YthejfodjielahaaMaps
namespace Go.Proofs.Ythejfodjielahaa
set_option maxRecDepth 8000
set_option linter.unusedSimpArgs false
set_option linter.unusedVariables false
open Go Go.RowKit

def ndV (n : Nd) : Value := .agg (ndL n).toArray

theorem int_equal {d : Nat} {t : TypeId} {q : IntKind} {x y : Int} {w : World} (ht : Try.prog.underlying t = some (.int q)) : (Op.equalIn (d + 1) t (.int q x) (.int q y)).run Try.prog w = .ok (x == y) w := run_equalIn_int w d t q q x y ht

/-- A type whose values are nodes: its fields, by their places. -/
structure NodeT (T : TypeId) : Prop where
  fields : ∃ f1 f2 f3 f4 f5 : Field, (Try.prog.fieldsOf T).toList = [f1, f2, f3, f4, f5] ∧
    (f1.name ≠ "_" ∧ f1.type = 3 ∧ f1.offset = 0) ∧ (f2.name ≠ "_" ∧ f2.type = 39 ∧ f2.offset = 1) ∧ (f3.name ≠ "_" ∧ f3.type = 3 ∧ f3.offset = 2) ∧
    (f4.name ≠ "_" ∧ f4.type = 3 ∧ f4.offset = 3) ∧ (f5.name ≠ "_" ∧ f5.type = 3 ∧ f5.offset = 4)
  under : Try.prog.underlying T = some (.struct (Try.prog.fieldsOf T))
  stood : Try.prog.stoodInHeld T = false
  guard : Try.prog.eqGuardType Try.prog.depth T = false

theorem nodeT : NodeT 57 := ⟨⟨_, _, _, _, _, rfl, ⟨by decide, rfl, rfl⟩, ⟨by decide, rfl, rfl⟩, ⟨by decide, rfl, rfl⟩, ⟨by decide, rfl, rfl⟩, ⟨by decide, rfl, rfl⟩⟩, rfl, by kernel_rfl, by kernel_rfl⟩
theorem node_fields : ∃ f1 f2 f3 f4 f5 : Field, (Try.prog.fieldsOf 57).toList = [f1, f2, f3, f4, f5] ∧
    (f1.name ≠ "_" ∧ f1.type = 3 ∧ f1.offset = 0) ∧ (f2.name ≠ "_" ∧ f2.type = 39 ∧ f2.offset = 1) ∧ (f3.name ≠ "_" ∧ f3.type = 3 ∧ f3.offset = 2) ∧
    (f4.name ≠ "_" ∧ f4.type = 3 ∧ f4.offset = 3) ∧ (f5.name ≠ "_" ∧ f5.type = 3 ∧ f5.offset = 4) := nodeT.fields

theorem part_int {xs : Array Value} {off : Nat} {v : Value} {w : World} (h : xs[off]? = some v) : (part 3 xs off).run Try.prog w = .ok v w := run_part_plain w (by rfl) h
theorem part_u64 {xs : Array Value} {off : Nat} {v : Value} {w : World} (h : xs[off]? = some v) : (part 39 xs off).run Try.prog w = .ok v w := run_part_plain w (by rfl) h

theorem node_equal_of {T : TypeId} (hT : NodeT T) {n m : Nd} {w : World} : (Op.equal T (ndV n) (ndV m)).run Try.prog w = .ok (decide (n = m)) w := by
  have he : (Op.equal T (ndV n) (ndV m)).run Try.prog w = (Op.eqFields 9999 (ndL n).toArray (ndL m).toArray (Try.prog.fieldsOf T).toList).run Try.prog w := run_equalIn_struct w 9999 T _ _ hT.under hT.stood
  rw [he]
  obtain ⟨f1, f2, f3, f4, f5, hf, ⟨a1, a2, a3⟩, ⟨b1, b2, b3⟩, ⟨c1, c2, c3⟩, ⟨d1, d2, d3⟩, ⟨e1, e2, e3⟩⟩ := hT.fields
  rw [hf]
  have pi : ∀ (d : Nat) (x y : Int), (Op.equalIn (9998 + 1) 3 (.int .i64 x) (.int .i64 y)).run Try.prog w = .ok (x == y) w := fun d x y => int_equal rfl
  have pu : ∀ (x y : Int), (Op.equalIn (9998 + 1) 39 (.int .u64 x) (.int .u64 y)).run Try.prog w = .ok (x == y) w := fun x y => int_equal rfl
  have h0 : ∀ n : Nd, (part 3 (ndL n).toArray 0).run Try.prog w = .ok (.int .i64 n.k) w := fun n => part_int rfl
  have h1 : ∀ n : Nd, (part 39 (ndL n).toArray 1).run Try.prog w = .ok (.int .u64 n.n) w := fun n => part_u64 rfl
  have h2 : ∀ n : Nd, (part 3 (ndL n).toArray 2).run Try.prog w = .ok (.int .i64 n.a) w := fun n => part_int rfl
  have h3 : ∀ n : Nd, (part 3 (ndL n).toArray 3).run Try.prog w = .ok (.int .i64 n.b) w := fun n => part_int rfl
  have h4 : ∀ n : Nd, (part 3 (ndL n).toArray 4).run Try.prog w = .ok (.int .i64 n.c) w := fun n => part_int rfl
  simp only [Op.eqFields, a1, a2, a3, b1, b2, b3, c1, c2, c3, d1, d2, d3, e1, e2, e3, if_pos, ne_eq, not_false_eq_true, Sem.run_bind, h0, h1, h2, h3, h4, Result.andThen_ok, pi 0, pu, Sem.run_ite, Sem.run_pure]
  obtain ⟨k, x, a, b, c⟩ := n
  obtain ⟨k', x', a', b', c'⟩ := m
  simp only [Nd.mk.injEq]
  by_cases q1 : k = k' <;> by_cases q2 : x = x' <;> by_cases q3 : a = a' <;> by_cases q4 : b = b' <;> by_cases q5 : c = c' <;> simp [q1, q2, q3, q4, q5]

theorem node_equal {n m : Nd} {w : World} : (Op.equal 57 (ndV n) (ndV m)).run Try.prog w = .ok (decide (n = m)) w := node_equal_of nodeT

theorem node_check {n : Nd} {b : Bool} {w : World} : (Instr.checkKey b 10000 57 (ndV n)).run Try.prog w = .ok () w := by
  have hu : Try.prog.underlying 57 = some (.struct (Try.prog.fieldsOf 57)) := rfl
  have h0 : ∀ n : Nd, (part 3 (ndL n).toArray 0).run Try.prog w = .ok (.int .i64 n.k) w := fun n => part_int rfl
  have h1 : ∀ n : Nd, (part 39 (ndL n).toArray 1).run Try.prog w = .ok (.int .u64 n.n) w := fun n => part_u64 rfl
  have h2 : ∀ n : Nd, (part 3 (ndL n).toArray 2).run Try.prog w = .ok (.int .i64 n.a) w := fun n => part_int rfl
  have h3 : ∀ n : Nd, (part 3 (ndL n).toArray 3).run Try.prog w = .ok (.int .i64 n.b) w := fun n => part_int rfl
  have h4 : ∀ n : Nd, (part 3 (ndL n).toArray 4).run Try.prog w = .ok (.int .i64 n.c) w := fun n => part_int rfl
  have ci : ∀ x : Int, (Instr.checkKey b (9998 + 1) 3 (.int .i64 x)).run Try.prog w = .ok () w := fun x => by
    rw [Instr.checkKey]
    simp only [Sem.run_bind, run_underlying (show Try.prog.underlying 3 = some (.int .i64) from rfl), Result.andThen_ok]
    rfl
  have cu : ∀ x : Int, (Instr.checkKey b (9998 + 1) 39 (.int .u64 x)).run Try.prog w = .ok () w := fun x => by
    rw [Instr.checkKey]
    simp only [Sem.run_bind, run_underlying (show Try.prog.underlying 39 = some (.int .u64) from rfl), Result.andThen_ok]
    rfl
  show (Instr.checkKey b (9999 + 1) 57 (ndV n)).run Try.prog w = _
  rw [Instr.checkKey]
  simp only [ndV, Sem.run_bind, run_underlying hu, Result.andThen_ok]
  obtain ⟨f1, f2, f3, f4, f5, hf, ⟨a1, a2, a3⟩, ⟨b1, b2, b3⟩, ⟨c1, c2, c3⟩, ⟨d1, d2, d3⟩, ⟨e1, e2, e3⟩⟩ := node_fields
  rw [← Array.forIn_toList, hf]
  simp only [List.forIn_cons, List.forIn_nil, a1, a2, a3, b1, b2, b3, c1, c2, c3, d1, d2, d3, e1, e2, e3, if_pos, ne_eq, not_false_eq_true, Sem.run_bind, h0, h1, h2, h3, h4, ci, cu, Result.andThen_ok, Sem.run_pure]

/-- Which node a key is. -/
def ndOf : Value → Nd
  | .agg cs => match cs.toList with
    | [.int _ k, .int _ n, .int _ a, .int _ b, .int _ c] => ⟨k, n, a, b, c⟩
    | _ => Nd.z
  | _ => Nd.z
theorem ndOf_ndV (n : Nd) : ndOf (ndV n) = n := rfl

theorem node_keys {n : Nd} {es : List MapEntry} (h : ∀ e ∈ es, e.key = ndV (ndOf e.key)) : KeyIs Try.prog 57 (ndV n) es (fun u => decide (n = ndOf u)) := by
  refine ⟨fun w => ?_, fun b w => node_check⟩
  have h1 := findAsking_eq (P := Try.prog) (kt := 57) (k := ndV n) (w := w) (eqv := fun u => decide (n = ndOf u)) es 0 (fun e he => by
    have := h e he
    generalize ndOf e.key = m at this
    rw [this, node_equal])
  have hu : Try.prog.underlying 57 = some (.struct (Try.prog.fieldsOf 57)) := rfl
  simp only [Instr.findKey, Sem.run_bind, run_underlying hu, Result.andThen_ok]
  cases es with
  | nil => rfl
  | cons e es =>
    have hn : Instr.findNow (.struct (Try.prog.fieldsOf 57)) (ndV n) (e :: es) 0 = none := by simp [Instr.findNow, Instr.sameNow]
    rw [hn]
    exact h1

def entriesL (L : List Nd) : List MapEntry := L.zipIdx.map fun (n, i) => ⟨ndV n, .int .i64 i, i⟩
theorem entries_eq (L : List Nd) : entries L = (entriesL L).toArray := rfl
theorem entries_keys {L : List Nd} : ∀ e ∈ entriesL L, e.key = ndV (ndOf e.key) := by
  intro e he
  obtain ⟨⟨n, i⟩, _, rfl⟩ := List.mem_map.1 he
  rfl
theorem entries_find {n : Nd} : ∀ {L : List Nd} {i j : Nat}, mfind (fun u => decide (n = ndOf u)) ((L.zipIdx i).map fun (n, i) => ⟨ndV n, .int .i64 i, i⟩) j = (findAt L n i).map (fun r : Nat => (j + (r - i), Value.int .i64 r))
  | [], _, _ => rfl
  | m :: L, i, j => by
    simp only [List.zipIdx_cons, List.map_cons, mfind, findAt]
    by_cases h : n = m
    · simp [h, ndOf_ndV]
    · have hd : decide (n = ndOf (ndV m)) = false := decide_eq_false h
      simp only [hd, if_neg h, Bool.false_eq_true, if_false]
      rw [entries_find (j := j + 1) (L := L) (i := i + 1)]
      cases hq : findAt L n (i + 1) with
      | none => rfl
      | some r =>
        have := (findAt_some hq).1
        simp only [Option.map_some, Option.some.injEq, Prod.mk.injEq, and_true]
        omega
theorem entries_found {n : Nd} {L : List Nd} : mfind (fun u => decide (n = ndOf u)) (entriesL L) 0 = (find L n).map (fun r : Nat => (r, Value.int .i64 r)) := by
  have := entries_find (n := n) (L := L) (i := 0) (j := 0)
  simpa [entriesL, find] using this
theorem entries_put {n : Nd} {L : List Nd} (h : find L n = none) : mput (fun u => decide (n = ndOf u)) (ndV n) (.int .i64 L.length) (entriesL L) L.length = (entriesL (L ++ [n]), (L ++ [n]).length) := by
  simp only [mput, entries_found, h, Option.map_none]
  simp [entriesL, List.zipIdx_append]
theorem entries_bits {n : Nd} {L : List Nd} : ∀ e ∈ entriesL L, decide (n = ndOf e.key) = true → Instr.sameBits 10000 e.key (ndV n) = true := by
  intro e he h
  rw [entries_keys e he, of_decide_eq_true h]
  simp [ndV, ndL, Instr.sameBits]
section
variable {n : Nat} {e : Env} {ty t' : TypeId} {x y : Operand} {S : World → Prop} {T : TypeId} {a b : Nd}
theorem Still.eqlNd (hT : NodeT T) (hx : ev e x = some (ndV a)) (hy : ev e y = some (ndV b)) : Still Try.prog n e S (.binOp .eql T x y t') ty (.bool (decide (a = b))) :=
  Still.bin hx hy (fun w => run_eqGuard_agg w .eql T x y _ _ hT.guard) (fun w _ => by simp [binOp, ndV, show (Op.equal T (.agg (ndL a).toArray) (.agg (ndL b).toArray)).run Try.prog w = _ from node_equal_of hT])
theorem Still.neqNd (hT : NodeT T) (hx : ev e x = some (ndV a)) (hy : ev e y = some (ndV b)) : Still Try.prog n e S (.binOp .neq T x y t') ty (.bool (decide (a ≠ b))) :=
  Still.bin hx hy (fun w => run_eqGuard_agg w .neq T x y _ _ hT.guard) (fun w _ => by simp [binOp, ndV, show (Op.equal T (.agg (ndL a).toArray) (.agg (ndL b).toArray)).run Try.prog w = _ from node_equal_of hT])
end
theorem flat_snoc {L : List Nd} {n : Nd} : flat (L ++ [n]) = flat L ++ ndL n := by simp [flat]
end Go.Proofs.Ythejfodjielahaa
