/-
  The laws' own rows of keys and values: at, does, same.
-/
import Derived.Test.YtkcmjjgojpenoaaStoreMore2
namespace Go.Proofs.Ytkcmjjgojpenoaa
set_option linter.unusedSimpArgs false
set_option linter.unusedVariables false
open Go Go.RowKit

/-- A row's cells. -/
def entF (kv : List (Int × ByteArray)) : List Value := kv.flatMap fun x => [.int .i64 x.1, .string x.2]
theorem entF_length (kv : List (Int × ByteArray)) : (entF kv).length = kv.length * 2 := by
  induction kv with
  | nil => rfl
  | cons x l ih => simp only [entF, List.flatMap_cons, List.length_append, List.length_cons, List.length_nil] at *; omega
theorem entF_drop : ∀ (kv : List (Int × ByteArray)) (i : Nat), (entF kv).drop (i * 2) = entF (kv.drop i)
  | l, 0 => by simp
  | [], i + 1 => by simp [entF]
  | x :: l, i + 1 => by
    have := entF_drop l i
    simp only [List.drop_succ_cons]
    rw [← this]
    simp only [entF, List.flatMap_cons]
    rw [show (i + 1) * 2 = [Value.int .i64 x.1, Value.string x.2].length + i * 2 by simp; omega, List.drop_append]
    simp
theorem entF_take {kv : List (Int × ByteArray)} {spare : List Value} {i : Nat} {x : Int × ByteArray} (h : kv[i]? = some x) : ((entF kv ++ spare).drop (i * 2)).take 2 = [.int .i64 x.1, .string x.2] := by
  obtain ⟨hi, rfl⟩ := List.getElem?_eq_some_iff.1 h
  rw [List.drop_append_of_le_length (by rw [entF_length]; omega), entF_drop, List.drop_eq_getElem_cons hi]
  simp only [entF, List.flatMap_cons, List.cons_append, List.nil_append]
  rfl
theorem entF_one {kv : List (Int × ByteArray)} : ∀ u ∈ entF kv, one u = true := by
  intro u hu
  obtain ⟨x, _, h⟩ := List.mem_flatMap.1 hu
  simp at h
  rcases h with rfl | rfl <;> rfl
theorem entF_snoc (kv : List (Int × ByteArray)) (k : Int) (u : ByteArray) : entF (kv ++ [(k, u)]) = entF kv ++ [.int .i64 k, .string u] := by simp [entF]
theorem entF_set {kv : List (Int × ByteArray)} {spare : List Value} {i : Nat} {k : Int} {b u : ByteArray} (h : kv[i]? = some (k, b)) :
    (entF kv ++ spare).take (i * 2 + 1) ++ [Value.string u] ++ (entF kv ++ spare).drop (i * 2 + 1 + 1) = entF (kv.set i (k, u)) ++ spare := by
  obtain ⟨hi, hx⟩ := List.getElem?_eq_some_iff.1 h
  have e1 : kv = kv.take i ++ (k, b) :: kv.drop (i + 1) := by rw [← hx, ← List.drop_eq_getElem_cons hi, List.take_append_drop]
  have hl : (entF (kv.take i)).length = i * 2 := by rw [entF_length]; simp; omega
  have e2 : entF kv = entF (kv.take i) ++ [.int .i64 k] ++ [.string b] ++ entF (kv.drop (i + 1)) := by
    conv => lhs; rw [e1]
    simp [entF]
  have e3 : entF (kv.set i (k, u)) = entF (kv.take i) ++ [.int .i64 k] ++ [.string u] ++ entF (kv.drop (i + 1)) := by
    rw [List.set_eq_take_append_cons_drop, if_pos hi]
    simp [entF]
  rw [e2, e3]
  have h1 : (entF (kv.take i) ++ [Value.int .i64 k]).length = i * 2 + 1 := by simp [hl]
  have h2 : (entF (kv.take i) ++ [Value.int .i64 k] ++ [Value.string b]).length = i * 2 + 1 + 1 := by simp [hl]
  have t1 : (entF (kv.take i) ++ [Value.int .i64 k] ++ [Value.string b] ++ entF (kv.drop (i + 1)) ++ spare).take (i * 2 + 1) = entF (kv.take i) ++ [Value.int .i64 k] := by
    rw [← h1]; simp only [List.append_assoc]
    rw [← List.append_assoc (entF (kv.take i))]
    exact List.take_left
  have t2 : (entF (kv.take i) ++ [Value.int .i64 k] ++ [Value.string b] ++ entF (kv.drop (i + 1)) ++ spare).drop (i * 2 + 1 + 1) = entF (kv.drop (i + 1)) ++ spare := by
    rw [← h2, List.append_assoc (entF (kv.take i) ++ [Value.int .i64 k] ++ [Value.string b])]
    exact List.drop_left
  rw [t1, t2]
  simp

/-- Where a key is; -1: nowhere. -/
def kat (kv : List (Int × ByteArray)) (k : Int) : Int := match kfindAt kv k 0 with
  | some (i, _) => i
  | none => -1

section
variable {we w : World} {ρ : List (Nat × Obj)} {σ F : List HP} {p : Nat} {lim : Int} {kv : List (Int × ByteArray)}

theorem atNil {k : Int} (hS : St we ρ σ w) : Cl Try.prog 25 [.slice none 0 0, .int .i64 k] w fun v w' => v = .int .i64 (-1) ∧ St we ρ σ w' := by
  refine Run.calls2 (n := 20) Try.func25 rfl rfl rfl ?_
  repeat' first
    | refine Run.loop ?_
    | refine Run.seq ?_
    | refine Run.region ?_
    | (refine RO.split ?_ ?_ <;> intro hc <;> try (first | (exfalso; omega) | exact absurd rfl hc | exact Bool.noConfusion hc))
    | refine RO.nil ?_
    | refine RO.still (by first | (apply Still.move; rfl) | (apply Still.assign; rfl) | (apply Still.load; rfl; rfl; (first | (focus (apply Rd.own; (repeat (first | apply Has.head | apply Has.tail)); done)) | (focus (apply Rd.ro; (repeat (first | apply List.Mem.head | apply List.Mem.tail)); done)) | (focus ((repeat (first | assumption | apply Rd.tail)); done))); (first | rfl | exact flat_get0 (by assumption) | exact flat_get1 (by assumption) | exact flat_get2 (by assumption) | exact flat_get3 (by assumption) | exact flat_get4 (by assumption))) | (apply Still.fieldAddr; rfl; (first | exact Eq.refl (some 0) | exact Eq.refl (some 1) | exact Eq.refl (some 2) | exact Eq.refl (some 3) | exact Eq.refl (some 4) | exact Eq.refl (some 5) | exact Eq.refl (some 6) | exact Eq.refl (some 7) | exact Eq.refl (some 8) | exact Eq.refl (some 9) | exact Eq.refl (some 10) | exact Eq.refl (some 11) | exact offAdd_zero rfl | exact offAdd_of (k := 1) rfl | exact offAdd_of (k := 2) rfl | exact offAdd_of (k := 3) rfl | exact offAdd_of (k := 4) rfl | exact offAdd_of (k := 5) rfl | exact offAdd_of (k := 6) rfl | exact offAdd_of (k := 7) rfl | exact offAdd_of (k := 8) rfl | exact offAdd_of (k := 9) rfl | exact offAdd_of (k := 10) rfl | exact offAdd_of (k := 11) rfl | rfl)) | (apply Still.nilCheck; rfl) | (apply Still.extract; rfl; rfl) | (apply Still.loadAgg; rfl; rfl; (first | exact Eq.refl (some 0) | exact Eq.refl (some 1) | exact Eq.refl (some 2) | exact Eq.refl (some 3) | exact Eq.refl (some 4) | exact Eq.refl (some 5) | exact Eq.refl (some 6) | exact Eq.refl (some 7) | exact Eq.refl (some 8) | exact Eq.refl (some 9) | exact Eq.refl (some 10) | exact Eq.refl (some 11) | exact offAdd_zero rfl | exact offAdd_of (k := 1) rfl | exact offAdd_of (k := 2) rfl | exact offAdd_of (k := 3) rfl | exact offAdd_of (k := 4) rfl | exact offAdd_of (k := 5) rfl | exact offAdd_of (k := 6) rfl | exact offAdd_of (k := 7) rfl | exact offAdd_of (k := 8) rfl | exact offAdd_of (k := 9) rfl | exact offAdd_of (k := 10) rfl | exact offAdd_of (k := 11) rfl | rfl); (first | (focus (apply Rd.own; (repeat (first | apply Has.head | apply Has.tail)); done)) | (focus (apply Rd.ro; (repeat (first | apply List.Mem.head | apply List.Mem.tail)); done)) | (focus ((repeat (first | assumption | apply Rd.tail)); done))); (first | exact flat_take (by assumption) | rfl); rfl) | (apply Still.pickT; rfl; rfl) | (apply Still.pickF; rfl; rfl) | (apply Still.lss; rfl; rfl) | (apply Still.leq; rfl; rfl) | (apply Still.gtr; rfl; rfl) | (apply Still.geq; rfl; rfl) | (apply Still.eql; rfl; rfl) | (apply Still.neq; rfl; rfl) | (apply Still.not; rfl; rfl) | (apply Still.add; rfl; rfl; (first | exact wrap_i64 (by omega) (by omega) | exact wrap_u64 (by omega) (by omega) | rfl)) | (apply Still.sub; rfl; rfl; (first | exact wrap_i64 (by omega) (by omega) | exact wrap_u64 (by omega) (by omega) | rfl)) | (apply Still.mul; rfl; rfl; (first | exact wrap_i64 (by omega) (by omega) | exact wrap_u64 (by omega) (by omega) | rfl)) | (apply Still.makeFunc; rfl; rfl) | (apply Still.lenSlice; rfl; rfl) | (apply Still.lenString; rfl; rfl) | (apply Still.build; rfl; rfl) | (apply Still.indexAddr; rfl; rfl; rfl; (first | exact Eq.refl (some 0) | exact Eq.refl (some 1) | exact Eq.refl (some 2) | exact Eq.refl (some 3) | exact Eq.refl (some 4) | exact Eq.refl (some 5) | exact Eq.refl (some 6) | exact Eq.refl (some 7) | exact Eq.refl (some 8) | exact Eq.refl (some 9) | exact Eq.refl (some 10) | exact Eq.refl (some 11) | exact offAdd_zero rfl | exact offAdd_of (k := 1) rfl | exact offAdd_of (k := 2) rfl | exact offAdd_of (k := 3) rfl | exact offAdd_of (k := 4) rfl | exact offAdd_of (k := 5) rfl | exact offAdd_of (k := 6) rfl | exact offAdd_of (k := 7) rfl | exact offAdd_of (k := 8) rfl | exact offAdd_of (k := 9) rfl | exact offAdd_of (k := 10) rfl | exact offAdd_of (k := 11) rfl | rfl); omega; omega; (first | (simp only [Int.toNat_natCast, Nat.mul_one, Nat.zero_add, Int.reduceToNat, Nat.reduceMul, Nat.reduceAdd, Nat.zero_mul]; exact rfl) | rfl)) | (apply Still.eqlB; rfl; rfl; rfl) | (apply Still.neqB; rfl; rfl; rfl) | (apply Still.eqlS; rfl; rfl) | (apply Still.neqS; rfl; rfl) | (apply Still.nilCheckF; rfl) | (apply Still.index; rfl; rfl; rfl; rfl; (first | exact Eq.refl (some 0) | exact Eq.refl (some 1) | exact Eq.refl (some 2) | exact Eq.refl (some 3) | exact Eq.refl (some 4) | exact Eq.refl (some 5) | exact Eq.refl (some 6) | exact Eq.refl (some 7) | exact Eq.refl (some 8) | exact Eq.refl (some 9) | exact Eq.refl (some 10) | exact Eq.refl (some 11) | exact offAdd_zero rfl | exact offAdd_of (k := 1) rfl | exact offAdd_of (k := 2) rfl | exact offAdd_of (k := 3) rfl | exact offAdd_of (k := 4) rfl | exact offAdd_of (k := 5) rfl | exact offAdd_of (k := 6) rfl | exact offAdd_of (k := 7) rfl | exact offAdd_of (k := 8) rfl | exact offAdd_of (k := 9) rfl | exact offAdd_of (k := 10) rfl | exact offAdd_of (k := 11) rfl | rfl); omega; omega; (first | (simp only [Int.toNat_natCast, Nat.mul_one, Nat.zero_add, Int.reduceToNat, Nat.reduceMul, Nat.reduceAdd, Nat.zero_mul]; exact rfl) | rfl); rfl) | (apply Still.sliceNil; rfl; rfl; rfl; rfl) | (apply Still.sliceNotNil; rfl; rfl; rfl; rfl) | (apply Still.mapNil; rfl; rfl; rfl; rfl) | (apply Still.ptrNil; rfl; rfl; rfl; rfl) | (apply Still.makeInterface; rfl; rfl) | (apply Still.assertMap; rfl; rfl) | (apply Still.maxI; rfl; rfl; rfl) | (apply Still.minI; rfl; rfl; rfl)) hS rfl ?_
    | (apply RO.op; apply OP.box hS; rfl; rfl; rfl; clear hS; intro b w1 hS)
    | (apply RO.op; apply OP.alloc hS; rfl; rfl; rfl; clear hS; intro b w1 hS)
    | (apply RO.op; apply OP.store hS; rfl; rfl; rfl; rfl; rfl; (focus ((repeat (first | apply Has.head | apply Take.head | apply Put.head | apply Has.tail | apply Take.tail | apply Put.tail)); done)); rfl; rfl; clear hS; intro w1 hS)
    | (apply RO.op; apply OP.buildSlice hS; rfl; rfl; (first | exact Eq.refl (some 0) | exact Eq.refl (some 1) | exact Eq.refl (some 2) | exact Eq.refl (some 3) | exact Eq.refl (some 4) | exact Eq.refl (some 5) | exact Eq.refl (some 6) | exact Eq.refl (some 7) | exact Eq.refl (some 8) | exact Eq.refl (some 9) | exact Eq.refl (some 10) | exact Eq.refl (some 11) | exact offAdd_zero rfl | exact offAdd_of (k := 1) rfl | exact offAdd_of (k := 2) rfl | exact offAdd_of (k := 3) rfl | exact offAdd_of (k := 4) rfl | exact offAdd_of (k := 5) rfl | exact offAdd_of (k := 6) rfl | exact offAdd_of (k := 7) rfl | exact offAdd_of (k := 8) rfl | exact offAdd_of (k := 9) rfl | exact offAdd_of (k := 10) rfl | exact offAdd_of (k := 11) rfl | rfl); rfl; rfl; rfl; rfl; rfl; clear hS; intro b w1 hS)
    | (apply RO.op; apply OP.makeMap hS; rfl; clear hS; intro b w1 hS)
    | refine RO.yes rfl rfl ?_
    | refine RO.no rfl rfl rfl rfl ?_
    | refine RO.noUndef rfl rfl rfl ?_
    | refine RO.noNone rfl rfl rfl ?_
    | refine Run.cond_true rfl ?_
    | refine Run.cond_false rfl ?_
    | refine Run.skip ?_
    | refine Run.block ?_
    | refine Run.inBlock ?_
    | refine Run.exit rfl ?_
  refine Run.ret Try.func25 rfl (.tmp rfl .nil) ?_
  exact ⟨rfl, hS⟩

theorem atRow {k : Int} {g cap : Nat} {spare : List Value} (hb : kv.length ≤ 100000) (hr : Rd ρ σ g (.cells (entF kv ++ spare).toArray 62 (0, 0))) (hS : St we ρ σ w) :
    Cl Try.prog 25 [.slice (some ⟨g, 0, none⟩) kv.length cap, .int .i64 k] w fun v w' => v = .int .i64 (kat kv k) ∧ St we ρ σ w' := by
  refine Run.calls2 (n := 20) Try.func25 rfl rfl rfl ?_
  repeat' first
    | refine Run.seq ?_
    | refine Run.region ?_
    | (refine RO.split ?_ ?_ <;> intro hc <;> try (first | (exfalso; omega) | exact absurd rfl hc | exact Bool.noConfusion hc))
    | refine RO.nil ?_
    | refine RO.still (by first | (apply Still.move; rfl) | (apply Still.assign; rfl) | (apply Still.load; rfl; rfl; (first | (focus (apply Rd.own; (repeat (first | apply Has.head | apply Has.tail)); done)) | (focus (apply Rd.ro; (repeat (first | apply List.Mem.head | apply List.Mem.tail)); done)) | (focus ((repeat (first | assumption | apply Rd.tail)); done))); (first | rfl | exact flat_get0 (by assumption) | exact flat_get1 (by assumption) | exact flat_get2 (by assumption) | exact flat_get3 (by assumption) | exact flat_get4 (by assumption))) | (apply Still.fieldAddr; rfl; (first | exact Eq.refl (some 0) | exact Eq.refl (some 1) | exact Eq.refl (some 2) | exact Eq.refl (some 3) | exact Eq.refl (some 4) | exact Eq.refl (some 5) | exact Eq.refl (some 6) | exact Eq.refl (some 7) | exact Eq.refl (some 8) | exact Eq.refl (some 9) | exact Eq.refl (some 10) | exact Eq.refl (some 11) | exact offAdd_zero rfl | exact offAdd_of (k := 1) rfl | exact offAdd_of (k := 2) rfl | exact offAdd_of (k := 3) rfl | exact offAdd_of (k := 4) rfl | exact offAdd_of (k := 5) rfl | exact offAdd_of (k := 6) rfl | exact offAdd_of (k := 7) rfl | exact offAdd_of (k := 8) rfl | exact offAdd_of (k := 9) rfl | exact offAdd_of (k := 10) rfl | exact offAdd_of (k := 11) rfl | rfl)) | (apply Still.nilCheck; rfl) | (apply Still.extract; rfl; rfl) | (apply Still.loadAgg; rfl; rfl; (first | exact Eq.refl (some 0) | exact Eq.refl (some 1) | exact Eq.refl (some 2) | exact Eq.refl (some 3) | exact Eq.refl (some 4) | exact Eq.refl (some 5) | exact Eq.refl (some 6) | exact Eq.refl (some 7) | exact Eq.refl (some 8) | exact Eq.refl (some 9) | exact Eq.refl (some 10) | exact Eq.refl (some 11) | exact offAdd_zero rfl | exact offAdd_of (k := 1) rfl | exact offAdd_of (k := 2) rfl | exact offAdd_of (k := 3) rfl | exact offAdd_of (k := 4) rfl | exact offAdd_of (k := 5) rfl | exact offAdd_of (k := 6) rfl | exact offAdd_of (k := 7) rfl | exact offAdd_of (k := 8) rfl | exact offAdd_of (k := 9) rfl | exact offAdd_of (k := 10) rfl | exact offAdd_of (k := 11) rfl | rfl); (first | (focus (apply Rd.own; (repeat (first | apply Has.head | apply Has.tail)); done)) | (focus (apply Rd.ro; (repeat (first | apply List.Mem.head | apply List.Mem.tail)); done)) | (focus ((repeat (first | assumption | apply Rd.tail)); done))); (first | exact flat_take (by assumption) | rfl); rfl) | (apply Still.pickT; rfl; rfl) | (apply Still.pickF; rfl; rfl) | (apply Still.lss; rfl; rfl) | (apply Still.leq; rfl; rfl) | (apply Still.gtr; rfl; rfl) | (apply Still.geq; rfl; rfl) | (apply Still.eql; rfl; rfl) | (apply Still.neq; rfl; rfl) | (apply Still.not; rfl; rfl) | (apply Still.add; rfl; rfl; (first | exact wrap_i64 (by omega) (by omega) | exact wrap_u64 (by omega) (by omega) | rfl)) | (apply Still.sub; rfl; rfl; (first | exact wrap_i64 (by omega) (by omega) | exact wrap_u64 (by omega) (by omega) | rfl)) | (apply Still.mul; rfl; rfl; (first | exact wrap_i64 (by omega) (by omega) | exact wrap_u64 (by omega) (by omega) | rfl)) | (apply Still.makeFunc; rfl; rfl) | (apply Still.lenSlice; rfl; rfl) | (apply Still.lenString; rfl; rfl) | (apply Still.build; rfl; rfl) | (apply Still.indexAddr; rfl; rfl; rfl; (first | exact Eq.refl (some 0) | exact Eq.refl (some 1) | exact Eq.refl (some 2) | exact Eq.refl (some 3) | exact Eq.refl (some 4) | exact Eq.refl (some 5) | exact Eq.refl (some 6) | exact Eq.refl (some 7) | exact Eq.refl (some 8) | exact Eq.refl (some 9) | exact Eq.refl (some 10) | exact Eq.refl (some 11) | exact offAdd_zero rfl | exact offAdd_of (k := 1) rfl | exact offAdd_of (k := 2) rfl | exact offAdd_of (k := 3) rfl | exact offAdd_of (k := 4) rfl | exact offAdd_of (k := 5) rfl | exact offAdd_of (k := 6) rfl | exact offAdd_of (k := 7) rfl | exact offAdd_of (k := 8) rfl | exact offAdd_of (k := 9) rfl | exact offAdd_of (k := 10) rfl | exact offAdd_of (k := 11) rfl | rfl); omega; omega; (first | (simp only [Int.toNat_natCast, Nat.mul_one, Nat.zero_add, Int.reduceToNat, Nat.reduceMul, Nat.reduceAdd, Nat.zero_mul]; exact rfl) | rfl)) | (apply Still.eqlB; rfl; rfl; rfl) | (apply Still.neqB; rfl; rfl; rfl) | (apply Still.eqlS; rfl; rfl) | (apply Still.neqS; rfl; rfl) | (apply Still.nilCheckF; rfl) | (apply Still.index; rfl; rfl; rfl; rfl; (first | exact Eq.refl (some 0) | exact Eq.refl (some 1) | exact Eq.refl (some 2) | exact Eq.refl (some 3) | exact Eq.refl (some 4) | exact Eq.refl (some 5) | exact Eq.refl (some 6) | exact Eq.refl (some 7) | exact Eq.refl (some 8) | exact Eq.refl (some 9) | exact Eq.refl (some 10) | exact Eq.refl (some 11) | exact offAdd_zero rfl | exact offAdd_of (k := 1) rfl | exact offAdd_of (k := 2) rfl | exact offAdd_of (k := 3) rfl | exact offAdd_of (k := 4) rfl | exact offAdd_of (k := 5) rfl | exact offAdd_of (k := 6) rfl | exact offAdd_of (k := 7) rfl | exact offAdd_of (k := 8) rfl | exact offAdd_of (k := 9) rfl | exact offAdd_of (k := 10) rfl | exact offAdd_of (k := 11) rfl | rfl); omega; omega; (first | (simp only [Int.toNat_natCast, Nat.mul_one, Nat.zero_add, Int.reduceToNat, Nat.reduceMul, Nat.reduceAdd, Nat.zero_mul]; exact rfl) | rfl); rfl) | (apply Still.sliceNil; rfl; rfl; rfl; rfl) | (apply Still.sliceNotNil; rfl; rfl; rfl; rfl) | (apply Still.mapNil; rfl; rfl; rfl; rfl) | (apply Still.ptrNil; rfl; rfl; rfl; rfl) | (apply Still.makeInterface; rfl; rfl) | (apply Still.assertMap; rfl; rfl) | (apply Still.maxI; rfl; rfl; rfl) | (apply Still.minI; rfl; rfl; rfl)) hS rfl ?_
    | (apply RO.op; apply OP.box hS; rfl; rfl; rfl; clear hS; intro b w1 hS)
    | (apply RO.op; apply OP.alloc hS; rfl; rfl; rfl; clear hS; intro b w1 hS)
    | (apply RO.op; apply OP.store hS; rfl; rfl; rfl; rfl; rfl; (focus ((repeat (first | apply Has.head | apply Take.head | apply Put.head | apply Has.tail | apply Take.tail | apply Put.tail)); done)); rfl; rfl; clear hS; intro w1 hS)
    | (apply RO.op; apply OP.buildSlice hS; rfl; rfl; (first | exact Eq.refl (some 0) | exact Eq.refl (some 1) | exact Eq.refl (some 2) | exact Eq.refl (some 3) | exact Eq.refl (some 4) | exact Eq.refl (some 5) | exact Eq.refl (some 6) | exact Eq.refl (some 7) | exact Eq.refl (some 8) | exact Eq.refl (some 9) | exact Eq.refl (some 10) | exact Eq.refl (some 11) | exact offAdd_zero rfl | exact offAdd_of (k := 1) rfl | exact offAdd_of (k := 2) rfl | exact offAdd_of (k := 3) rfl | exact offAdd_of (k := 4) rfl | exact offAdd_of (k := 5) rfl | exact offAdd_of (k := 6) rfl | exact offAdd_of (k := 7) rfl | exact offAdd_of (k := 8) rfl | exact offAdd_of (k := 9) rfl | exact offAdd_of (k := 10) rfl | exact offAdd_of (k := 11) rfl | rfl); rfl; rfl; rfl; rfl; rfl; clear hS; intro b w1 hS)
    | (apply RO.op; apply OP.makeMap hS; rfl; clear hS; intro b w1 hS)
    | refine RO.yes rfl rfl ?_
    | refine RO.no rfl rfl rfl rfl ?_
    | refine RO.noUndef rfl rfl rfl ?_
    | refine RO.noNone rfl rfl rfl ?_
    | refine Run.cond_true rfl ?_
    | refine Run.cond_false rfl ?_
    | refine Run.skip ?_
    | refine Run.block ?_
    | refine Run.inBlock ?_
    | refine Run.exit rfl ?_
  refine Run.while (fun i : Nat => [(1, .int .i64 k), (7, .slice (some ⟨g, 0, none⟩) kv.length cap), (8, .int .i64 kv.length), (9, .int .i64 i)])
    (fun i w => i ≤ kv.length ∧ kfindAt kv k 0 = kfindAt (kv.drop i) k i ∧ St we ρ σ w) (fun i => kv.length - i) 0 ⟨by omega, by simp, hS⟩ (by focus ((repeat (first | exact .nil | refine .cons rfl ?_)); done)) ?_
  clear hS
  rintro i w ⟨hi, hfirst, hS⟩ ih
  by_cases hlt : i < kv.length
  · have hx : kv[i]? = some kv[i] := List.getElem?_eq_getElem hlt
    have hd : kv.drop i = kv[i] :: kv.drop (i + 1) := List.drop_eq_getElem_cons hlt
    generalize hxx : kv[i] = x at hx hd
    obtain ⟨a, u⟩ := x
    have htk := entF_take (spare := spare) hx
    repeat' first
      | (refine RO.still (by apply Still.loadAgg; rfl; rfl; (first | exact Eq.refl (some 0) | exact Eq.refl (some 1) | exact Eq.refl (some 2) | exact Eq.refl (some 3) | exact Eq.refl (some 4) | exact Eq.refl (some 5) | exact Eq.refl (some 6) | exact Eq.refl (some 7) | exact Eq.refl (some 8) | exact Eq.refl (some 9) | exact Eq.refl (some 10) | exact Eq.refl (some 11) | exact offAdd_zero rfl | exact offAdd_of (k := 1) rfl | exact offAdd_of (k := 2) rfl | exact offAdd_of (k := 3) rfl | exact offAdd_of (k := 4) rfl | exact offAdd_of (k := 5) rfl | exact offAdd_of (k := 6) rfl | exact offAdd_of (k := 7) rfl | exact offAdd_of (k := 8) rfl | exact offAdd_of (k := 9) rfl | exact offAdd_of (k := 10) rfl | exact offAdd_of (k := 11) rfl | rfl); exact hr; exact htk; rfl) hS rfl ?_)
      | refine Run.seq ?_
      | refine Run.region ?_
      | (refine RO.split ?_ ?_ <;> intro hc <;> try (first | (exfalso; omega) | exact absurd rfl hc | exact Bool.noConfusion hc))
      | refine RO.nil ?_
      | refine RO.still (by first | (apply Still.move; rfl) | (apply Still.assign; rfl) | (apply Still.load; rfl; rfl; (first | (focus (apply Rd.own; (repeat (first | apply Has.head | apply Has.tail)); done)) | (focus (apply Rd.ro; (repeat (first | apply List.Mem.head | apply List.Mem.tail)); done)) | (focus ((repeat (first | assumption | apply Rd.tail)); done))); (first | rfl | exact flat_get0 (by assumption) | exact flat_get1 (by assumption) | exact flat_get2 (by assumption) | exact flat_get3 (by assumption) | exact flat_get4 (by assumption))) | (apply Still.fieldAddr; rfl; (first | exact Eq.refl (some 0) | exact Eq.refl (some 1) | exact Eq.refl (some 2) | exact Eq.refl (some 3) | exact Eq.refl (some 4) | exact Eq.refl (some 5) | exact Eq.refl (some 6) | exact Eq.refl (some 7) | exact Eq.refl (some 8) | exact Eq.refl (some 9) | exact Eq.refl (some 10) | exact Eq.refl (some 11) | exact offAdd_zero rfl | exact offAdd_of (k := 1) rfl | exact offAdd_of (k := 2) rfl | exact offAdd_of (k := 3) rfl | exact offAdd_of (k := 4) rfl | exact offAdd_of (k := 5) rfl | exact offAdd_of (k := 6) rfl | exact offAdd_of (k := 7) rfl | exact offAdd_of (k := 8) rfl | exact offAdd_of (k := 9) rfl | exact offAdd_of (k := 10) rfl | exact offAdd_of (k := 11) rfl | rfl)) | (apply Still.nilCheck; rfl) | (apply Still.extract; rfl; rfl) | (apply Still.loadAgg; rfl; rfl; (first | exact Eq.refl (some 0) | exact Eq.refl (some 1) | exact Eq.refl (some 2) | exact Eq.refl (some 3) | exact Eq.refl (some 4) | exact Eq.refl (some 5) | exact Eq.refl (some 6) | exact Eq.refl (some 7) | exact Eq.refl (some 8) | exact Eq.refl (some 9) | exact Eq.refl (some 10) | exact Eq.refl (some 11) | exact offAdd_zero rfl | exact offAdd_of (k := 1) rfl | exact offAdd_of (k := 2) rfl | exact offAdd_of (k := 3) rfl | exact offAdd_of (k := 4) rfl | exact offAdd_of (k := 5) rfl | exact offAdd_of (k := 6) rfl | exact offAdd_of (k := 7) rfl | exact offAdd_of (k := 8) rfl | exact offAdd_of (k := 9) rfl | exact offAdd_of (k := 10) rfl | exact offAdd_of (k := 11) rfl | rfl); (first | (focus (apply Rd.own; (repeat (first | apply Has.head | apply Has.tail)); done)) | (focus (apply Rd.ro; (repeat (first | apply List.Mem.head | apply List.Mem.tail)); done)) | (focus ((repeat (first | assumption | apply Rd.tail)); done))); (first | exact flat_take (by assumption) | rfl); rfl) | (apply Still.pickT; rfl; rfl) | (apply Still.pickF; rfl; rfl) | (apply Still.lss; rfl; rfl) | (apply Still.leq; rfl; rfl) | (apply Still.gtr; rfl; rfl) | (apply Still.geq; rfl; rfl) | (apply Still.eql; rfl; rfl) | (apply Still.neq; rfl; rfl) | (apply Still.not; rfl; rfl) | (apply Still.add; rfl; rfl; (first | exact wrap_i64 (by omega) (by omega) | exact wrap_u64 (by omega) (by omega) | rfl)) | (apply Still.sub; rfl; rfl; (first | exact wrap_i64 (by omega) (by omega) | exact wrap_u64 (by omega) (by omega) | rfl)) | (apply Still.mul; rfl; rfl; (first | exact wrap_i64 (by omega) (by omega) | exact wrap_u64 (by omega) (by omega) | rfl)) | (apply Still.makeFunc; rfl; rfl) | (apply Still.lenSlice; rfl; rfl) | (apply Still.lenString; rfl; rfl) | (apply Still.build; rfl; rfl) | (apply Still.indexAddr; rfl; rfl; rfl; (first | exact Eq.refl (some 0) | exact Eq.refl (some 1) | exact Eq.refl (some 2) | exact Eq.refl (some 3) | exact Eq.refl (some 4) | exact Eq.refl (some 5) | exact Eq.refl (some 6) | exact Eq.refl (some 7) | exact Eq.refl (some 8) | exact Eq.refl (some 9) | exact Eq.refl (some 10) | exact Eq.refl (some 11) | exact offAdd_zero rfl | exact offAdd_of (k := 1) rfl | exact offAdd_of (k := 2) rfl | exact offAdd_of (k := 3) rfl | exact offAdd_of (k := 4) rfl | exact offAdd_of (k := 5) rfl | exact offAdd_of (k := 6) rfl | exact offAdd_of (k := 7) rfl | exact offAdd_of (k := 8) rfl | exact offAdd_of (k := 9) rfl | exact offAdd_of (k := 10) rfl | exact offAdd_of (k := 11) rfl | rfl); omega; omega; (first | (simp only [Int.toNat_natCast, Nat.mul_one, Nat.zero_add, Int.reduceToNat, Nat.reduceMul, Nat.reduceAdd, Nat.zero_mul]; exact rfl) | rfl)) | (apply Still.eqlB; rfl; rfl; rfl) | (apply Still.neqB; rfl; rfl; rfl) | (apply Still.eqlS; rfl; rfl) | (apply Still.neqS; rfl; rfl) | (apply Still.nilCheckF; rfl) | (apply Still.index; rfl; rfl; rfl; rfl; (first | exact Eq.refl (some 0) | exact Eq.refl (some 1) | exact Eq.refl (some 2) | exact Eq.refl (some 3) | exact Eq.refl (some 4) | exact Eq.refl (some 5) | exact Eq.refl (some 6) | exact Eq.refl (some 7) | exact Eq.refl (some 8) | exact Eq.refl (some 9) | exact Eq.refl (some 10) | exact Eq.refl (some 11) | exact offAdd_zero rfl | exact offAdd_of (k := 1) rfl | exact offAdd_of (k := 2) rfl | exact offAdd_of (k := 3) rfl | exact offAdd_of (k := 4) rfl | exact offAdd_of (k := 5) rfl | exact offAdd_of (k := 6) rfl | exact offAdd_of (k := 7) rfl | exact offAdd_of (k := 8) rfl | exact offAdd_of (k := 9) rfl | exact offAdd_of (k := 10) rfl | exact offAdd_of (k := 11) rfl | rfl); omega; omega; (first | (simp only [Int.toNat_natCast, Nat.mul_one, Nat.zero_add, Int.reduceToNat, Nat.reduceMul, Nat.reduceAdd, Nat.zero_mul]; exact rfl) | rfl); rfl) | (apply Still.sliceNil; rfl; rfl; rfl; rfl) | (apply Still.sliceNotNil; rfl; rfl; rfl; rfl) | (apply Still.mapNil; rfl; rfl; rfl; rfl) | (apply Still.ptrNil; rfl; rfl; rfl; rfl) | (apply Still.makeInterface; rfl; rfl) | (apply Still.assertMap; rfl; rfl) | (apply Still.maxI; rfl; rfl; rfl) | (apply Still.minI; rfl; rfl; rfl)) hS rfl ?_
      | (apply RO.op; apply OP.box hS; rfl; rfl; rfl; clear hS; intro b w1 hS)
      | (apply RO.op; apply OP.alloc hS; rfl; rfl; rfl; clear hS; intro b w1 hS)
      | (apply RO.op; apply OP.store hS; rfl; rfl; rfl; rfl; rfl; (focus ((repeat (first | apply Has.head | apply Take.head | apply Put.head | apply Has.tail | apply Take.tail | apply Put.tail)); done)); rfl; rfl; clear hS; intro w1 hS)
      | (apply RO.op; apply OP.buildSlice hS; rfl; rfl; (first | exact Eq.refl (some 0) | exact Eq.refl (some 1) | exact Eq.refl (some 2) | exact Eq.refl (some 3) | exact Eq.refl (some 4) | exact Eq.refl (some 5) | exact Eq.refl (some 6) | exact Eq.refl (some 7) | exact Eq.refl (some 8) | exact Eq.refl (some 9) | exact Eq.refl (some 10) | exact Eq.refl (some 11) | exact offAdd_zero rfl | exact offAdd_of (k := 1) rfl | exact offAdd_of (k := 2) rfl | exact offAdd_of (k := 3) rfl | exact offAdd_of (k := 4) rfl | exact offAdd_of (k := 5) rfl | exact offAdd_of (k := 6) rfl | exact offAdd_of (k := 7) rfl | exact offAdd_of (k := 8) rfl | exact offAdd_of (k := 9) rfl | exact offAdd_of (k := 10) rfl | exact offAdd_of (k := 11) rfl | rfl); rfl; rfl; rfl; rfl; rfl; clear hS; intro b w1 hS)
      | (apply RO.op; apply OP.makeMap hS; rfl; clear hS; intro b w1 hS)
      | refine RO.yes rfl rfl ?_
      | refine RO.no rfl rfl rfl rfl ?_
      | refine RO.noUndef rfl rfl rfl ?_
      | refine RO.noNone rfl rfl rfl ?_
      | refine Run.cond_true rfl ?_
      | refine Run.cond_false rfl ?_
      | refine Run.skip ?_
      | refine Run.block ?_
      | refine Run.inBlock ?_
      | refine Run.exit rfl ?_
    · refine Run.ret Try.func25 rfl (.tmp rfl .nil) ?_
      have hc' : k = a := by omega
      refine ⟨?_, hS.picks (by focus ((repeat (first | apply Picks.all | apply Picks.nil | (refine Picks.cons (by repeat (first | apply Take.head | apply Take.tail)) ?_) | apply Picks.drop)); done))⟩
      simp only [kat, hfirst, hd, kfindAt, if_pos hc']
      rfl
    · have hc' : ¬ k = a := by omega
      refine Run.weaken (e' := [_, _, _, (9, .int .i64 ((i + 1 : Nat) : Int))]) (by focus ((repeat (first | exact .nil | refine .cons rfl ?_)); done)) (ih (i + 1) _ ⟨by omega, ?_, hS.picks (by focus ((repeat (first | apply Picks.all | apply Picks.nil | (refine Picks.cons (by repeat (first | apply Take.head | apply Take.tail)) ?_) | apply Picks.drop)); done))⟩ (by omega))
      rw [hfirst, hd, kfindAt, if_neg hc']
  · obtain rfl : i = kv.length := by omega
    repeat' first
      | refine Run.seq ?_
      | refine Run.region ?_
      | (refine RO.split ?_ ?_ <;> intro hc <;> try (first | (exfalso; omega) | exact absurd rfl hc | exact Bool.noConfusion hc))
      | refine RO.nil ?_
      | refine RO.still (by first | (apply Still.move; rfl) | (apply Still.assign; rfl) | (apply Still.load; rfl; rfl; (first | (focus (apply Rd.own; (repeat (first | apply Has.head | apply Has.tail)); done)) | (focus (apply Rd.ro; (repeat (first | apply List.Mem.head | apply List.Mem.tail)); done)) | (focus ((repeat (first | assumption | apply Rd.tail)); done))); (first | rfl | exact flat_get0 (by assumption) | exact flat_get1 (by assumption) | exact flat_get2 (by assumption) | exact flat_get3 (by assumption) | exact flat_get4 (by assumption))) | (apply Still.fieldAddr; rfl; (first | exact Eq.refl (some 0) | exact Eq.refl (some 1) | exact Eq.refl (some 2) | exact Eq.refl (some 3) | exact Eq.refl (some 4) | exact Eq.refl (some 5) | exact Eq.refl (some 6) | exact Eq.refl (some 7) | exact Eq.refl (some 8) | exact Eq.refl (some 9) | exact Eq.refl (some 10) | exact Eq.refl (some 11) | exact offAdd_zero rfl | exact offAdd_of (k := 1) rfl | exact offAdd_of (k := 2) rfl | exact offAdd_of (k := 3) rfl | exact offAdd_of (k := 4) rfl | exact offAdd_of (k := 5) rfl | exact offAdd_of (k := 6) rfl | exact offAdd_of (k := 7) rfl | exact offAdd_of (k := 8) rfl | exact offAdd_of (k := 9) rfl | exact offAdd_of (k := 10) rfl | exact offAdd_of (k := 11) rfl | rfl)) | (apply Still.nilCheck; rfl) | (apply Still.extract; rfl; rfl) | (apply Still.loadAgg; rfl; rfl; (first | exact Eq.refl (some 0) | exact Eq.refl (some 1) | exact Eq.refl (some 2) | exact Eq.refl (some 3) | exact Eq.refl (some 4) | exact Eq.refl (some 5) | exact Eq.refl (some 6) | exact Eq.refl (some 7) | exact Eq.refl (some 8) | exact Eq.refl (some 9) | exact Eq.refl (some 10) | exact Eq.refl (some 11) | exact offAdd_zero rfl | exact offAdd_of (k := 1) rfl | exact offAdd_of (k := 2) rfl | exact offAdd_of (k := 3) rfl | exact offAdd_of (k := 4) rfl | exact offAdd_of (k := 5) rfl | exact offAdd_of (k := 6) rfl | exact offAdd_of (k := 7) rfl | exact offAdd_of (k := 8) rfl | exact offAdd_of (k := 9) rfl | exact offAdd_of (k := 10) rfl | exact offAdd_of (k := 11) rfl | rfl); (first | (focus (apply Rd.own; (repeat (first | apply Has.head | apply Has.tail)); done)) | (focus (apply Rd.ro; (repeat (first | apply List.Mem.head | apply List.Mem.tail)); done)) | (focus ((repeat (first | assumption | apply Rd.tail)); done))); (first | exact flat_take (by assumption) | rfl); rfl) | (apply Still.pickT; rfl; rfl) | (apply Still.pickF; rfl; rfl) | (apply Still.lss; rfl; rfl) | (apply Still.leq; rfl; rfl) | (apply Still.gtr; rfl; rfl) | (apply Still.geq; rfl; rfl) | (apply Still.eql; rfl; rfl) | (apply Still.neq; rfl; rfl) | (apply Still.not; rfl; rfl) | (apply Still.add; rfl; rfl; (first | exact wrap_i64 (by omega) (by omega) | exact wrap_u64 (by omega) (by omega) | rfl)) | (apply Still.sub; rfl; rfl; (first | exact wrap_i64 (by omega) (by omega) | exact wrap_u64 (by omega) (by omega) | rfl)) | (apply Still.mul; rfl; rfl; (first | exact wrap_i64 (by omega) (by omega) | exact wrap_u64 (by omega) (by omega) | rfl)) | (apply Still.makeFunc; rfl; rfl) | (apply Still.lenSlice; rfl; rfl) | (apply Still.lenString; rfl; rfl) | (apply Still.build; rfl; rfl) | (apply Still.indexAddr; rfl; rfl; rfl; (first | exact Eq.refl (some 0) | exact Eq.refl (some 1) | exact Eq.refl (some 2) | exact Eq.refl (some 3) | exact Eq.refl (some 4) | exact Eq.refl (some 5) | exact Eq.refl (some 6) | exact Eq.refl (some 7) | exact Eq.refl (some 8) | exact Eq.refl (some 9) | exact Eq.refl (some 10) | exact Eq.refl (some 11) | exact offAdd_zero rfl | exact offAdd_of (k := 1) rfl | exact offAdd_of (k := 2) rfl | exact offAdd_of (k := 3) rfl | exact offAdd_of (k := 4) rfl | exact offAdd_of (k := 5) rfl | exact offAdd_of (k := 6) rfl | exact offAdd_of (k := 7) rfl | exact offAdd_of (k := 8) rfl | exact offAdd_of (k := 9) rfl | exact offAdd_of (k := 10) rfl | exact offAdd_of (k := 11) rfl | rfl); omega; omega; (first | (simp only [Int.toNat_natCast, Nat.mul_one, Nat.zero_add, Int.reduceToNat, Nat.reduceMul, Nat.reduceAdd, Nat.zero_mul]; exact rfl) | rfl)) | (apply Still.eqlB; rfl; rfl; rfl) | (apply Still.neqB; rfl; rfl; rfl) | (apply Still.eqlS; rfl; rfl) | (apply Still.neqS; rfl; rfl) | (apply Still.nilCheckF; rfl) | (apply Still.index; rfl; rfl; rfl; rfl; (first | exact Eq.refl (some 0) | exact Eq.refl (some 1) | exact Eq.refl (some 2) | exact Eq.refl (some 3) | exact Eq.refl (some 4) | exact Eq.refl (some 5) | exact Eq.refl (some 6) | exact Eq.refl (some 7) | exact Eq.refl (some 8) | exact Eq.refl (some 9) | exact Eq.refl (some 10) | exact Eq.refl (some 11) | exact offAdd_zero rfl | exact offAdd_of (k := 1) rfl | exact offAdd_of (k := 2) rfl | exact offAdd_of (k := 3) rfl | exact offAdd_of (k := 4) rfl | exact offAdd_of (k := 5) rfl | exact offAdd_of (k := 6) rfl | exact offAdd_of (k := 7) rfl | exact offAdd_of (k := 8) rfl | exact offAdd_of (k := 9) rfl | exact offAdd_of (k := 10) rfl | exact offAdd_of (k := 11) rfl | rfl); omega; omega; (first | (simp only [Int.toNat_natCast, Nat.mul_one, Nat.zero_add, Int.reduceToNat, Nat.reduceMul, Nat.reduceAdd, Nat.zero_mul]; exact rfl) | rfl); rfl) | (apply Still.sliceNil; rfl; rfl; rfl; rfl) | (apply Still.sliceNotNil; rfl; rfl; rfl; rfl) | (apply Still.mapNil; rfl; rfl; rfl; rfl) | (apply Still.ptrNil; rfl; rfl; rfl; rfl) | (apply Still.makeInterface; rfl; rfl) | (apply Still.assertMap; rfl; rfl) | (apply Still.maxI; rfl; rfl; rfl) | (apply Still.minI; rfl; rfl; rfl)) hS rfl ?_
      | (apply RO.op; apply OP.box hS; rfl; rfl; rfl; clear hS; intro b w1 hS)
      | (apply RO.op; apply OP.alloc hS; rfl; rfl; rfl; clear hS; intro b w1 hS)
      | (apply RO.op; apply OP.store hS; rfl; rfl; rfl; rfl; rfl; (focus ((repeat (first | apply Has.head | apply Take.head | apply Put.head | apply Has.tail | apply Take.tail | apply Put.tail)); done)); rfl; rfl; clear hS; intro w1 hS)
      | (apply RO.op; apply OP.buildSlice hS; rfl; rfl; (first | exact Eq.refl (some 0) | exact Eq.refl (some 1) | exact Eq.refl (some 2) | exact Eq.refl (some 3) | exact Eq.refl (some 4) | exact Eq.refl (some 5) | exact Eq.refl (some 6) | exact Eq.refl (some 7) | exact Eq.refl (some 8) | exact Eq.refl (some 9) | exact Eq.refl (some 10) | exact Eq.refl (some 11) | exact offAdd_zero rfl | exact offAdd_of (k := 1) rfl | exact offAdd_of (k := 2) rfl | exact offAdd_of (k := 3) rfl | exact offAdd_of (k := 4) rfl | exact offAdd_of (k := 5) rfl | exact offAdd_of (k := 6) rfl | exact offAdd_of (k := 7) rfl | exact offAdd_of (k := 8) rfl | exact offAdd_of (k := 9) rfl | exact offAdd_of (k := 10) rfl | exact offAdd_of (k := 11) rfl | rfl); rfl; rfl; rfl; rfl; rfl; clear hS; intro b w1 hS)
      | (apply RO.op; apply OP.makeMap hS; rfl; clear hS; intro b w1 hS)
      | refine RO.yes rfl rfl ?_
      | refine RO.no rfl rfl rfl rfl ?_
      | refine RO.noUndef rfl rfl rfl ?_
      | refine RO.noNone rfl rfl rfl ?_
      | refine Run.cond_true rfl ?_
      | refine Run.cond_false rfl ?_
      | refine Run.skip ?_
      | refine Run.block ?_
      | refine Run.inBlock ?_
      | refine Run.exit rfl ?_
    refine Run.ret Try.func25 rfl (.tmp rfl .nil) ?_
    refine ⟨?_, hS⟩
    simp only [kat, hfirst, List.drop_length, kfindAt]
    rfl
end
end Go.Proofs.Ytkcmjjgojpenoaa
