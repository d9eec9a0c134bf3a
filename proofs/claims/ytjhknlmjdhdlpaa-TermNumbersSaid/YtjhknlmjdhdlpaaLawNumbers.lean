/-
  Names and words of other numbers are others; a Key has one of four: undertonelaw01.TermNumbers is true.
-/
import Derived.Test.YtjhknlmjdhdlpaaLaw
namespace Go.Proofs.Ytjhknlmjdhdlpaa
set_option linter.unusedSimpArgs false
set_option linter.unusedVariables false
open Go Go.RowKit

section
variable {we w : World} {ρ : List (Nat × Obj)} {σ F : List HP}

theorem num1 (n : Int) : mk 50 [Nd.z] ⟨1, n, 0, 0, 0⟩ = ([Nd.z, ⟨1, n, 0, 0, 0⟩], 1, 0) := by
  simp [mk, right, numbered, many, partOk, find, findAt, Nd.z]
theorem num2 {n m : Int} (h : n = m) : mk 50 [Nd.z, ⟨1, n, 0, 0, 0⟩] ⟨1, m, 0, 0, 0⟩ = ([Nd.z, ⟨1, n, 0, 0, 0⟩], 1, 0) := by
  subst h; simp [mk, right, numbered, many, partOk, find, findAt, Nd.z]
theorem num2' {n m : Int} (h : n ≠ m) : mk 50 [Nd.z, ⟨1, n, 0, 0, 0⟩] ⟨1, m, 0, 0, 0⟩ = ([Nd.z, ⟨1, n, 0, 0, 0⟩, ⟨1, m, 0, 0, 0⟩], 2, 0) := by
  have h' : m ≠ n := fun e => h e.symm
  simp [mk, right, numbered, many, partOk, find, findAt, Nd.z, h']
theorem num3 (n : Int) : mk 50 [Nd.z, ⟨1, n, 0, 0, 0⟩] ⟨9, n, 0, 0, 0⟩ = ([Nd.z, ⟨1, n, 0, 0, 0⟩, ⟨9, n, 0, 0, 0⟩], 2, 0) := by
  simp [mk, right, numbered, many, partOk, find, findAt, Nd.z]
theorem num3' (n m : Int) : mk 50 [Nd.z, ⟨1, n, 0, 0, 0⟩, ⟨1, m, 0, 0, 0⟩] ⟨9, n, 0, 0, 0⟩ = ([Nd.z, ⟨1, n, 0, 0, 0⟩, ⟨1, m, 0, 0, 0⟩, ⟨9, n, 0, 0, 0⟩], 3, 0) := by
  simp [mk, right, numbered, many, partOk, find, findAt, Nd.z]
theorem num4 {n : Int} (h : 1 ≤ n ∧ n ≤ 4) : mk 50 [Nd.z, ⟨1, n, 0, 0, 0⟩, ⟨9, n, 0, 0, 0⟩] ⟨6, n, 1, 1, 0⟩ = ([Nd.z, ⟨1, n, 0, 0, 0⟩, ⟨9, n, 0, 0, 0⟩, ⟨6, n, 1, 1, 0⟩], 3, 0) := by
  simp [mk, right, numbered, many, partOk, find, findAt, Nd.z, has, h]
theorem num5 {n : Int} (h : ¬ (1 ≤ n ∧ n ≤ 4)) : mk 50 [Nd.z, ⟨1, n, 0, 0, 0⟩, ⟨9, n, 0, 0, 0⟩] ⟨6, n, 1, 1, 0⟩ = ([Nd.z, ⟨1, n, 0, 0, 0⟩, ⟨9, n, 0, 0, 0⟩], 0, 1) := by
  have : right [Nd.z, ⟨1, n, 0, 0, 0⟩, ⟨9, n, 0, 0, 0⟩] ⟨6, n, 1, 1, 0⟩ = false := right_no (.inr (.inr (.inl (by simp [numbered]; omega))))
  simp [mk, this]
theorem num4' {n m : Int} (h : 1 ≤ n ∧ n ≤ 4) : mk 50 [Nd.z, ⟨1, n, 0, 0, 0⟩, ⟨1, m, 0, 0, 0⟩, ⟨9, n, 0, 0, 0⟩] ⟨6, n, 1, 2, 0⟩ = ([Nd.z, ⟨1, n, 0, 0, 0⟩, ⟨1, m, 0, 0, 0⟩, ⟨9, n, 0, 0, 0⟩, ⟨6, n, 1, 2, 0⟩], 4, 0) := by
  simp [mk, right, numbered, many, partOk, find, findAt, Nd.z, has, h]
theorem num5' {n m : Int} (h : ¬ (1 ≤ n ∧ n ≤ 4)) : mk 50 [Nd.z, ⟨1, n, 0, 0, 0⟩, ⟨1, m, 0, 0, 0⟩, ⟨9, n, 0, 0, 0⟩] ⟨6, n, 1, 2, 0⟩ = ([Nd.z, ⟨1, n, 0, 0, 0⟩, ⟨1, m, 0, 0, 0⟩, ⟨9, n, 0, 0, 0⟩], 0, 1) := by
  have : right [Nd.z, ⟨1, n, 0, 0, 0⟩, ⟨1, m, 0, 0, 0⟩, ⟨9, n, 0, 0, 0⟩] ⟨6, n, 1, 2, 0⟩ = false := right_no (.inr (.inr (.inl (by simp [numbered]; omega))))
  simp [mk, this]

set_option maxHeartbeats 4000000 in
theorem numbers_law {n m : Int} (hS : St we ρ σ w) : Cl Try.prog 6 [.int .u64 n, .int .u64 m] w fun v w' => v = .bool true ∧ St we ρ σ w' := by
  by_cases hnm : n = m <;> by_cases hk : 1 ≤ n ∧ n ≤ 4
  all_goals
    refine Run.calls2 (n := 93) Try.func6 rfl rfl rfl ?_
    repeat' first
      | (apply RO.op; apply OP.callF; rfl; rfl; rfl; show Cl _ 21 _ _ _; exact new_calls hS; clear hS; rintro v w1 ⟨p, rfl, hS⟩; replace hS : St we ρ (Arena p 50 [Nd.z] :: σ) w1 := hS)
      | (apply RO.op; apply OP.callF; rfl; rfl; rfl; show Cl _ 19 _ _ _; (first | (apply mk_is (num1 n); exact hS) | (apply mk_is (num2 hnm); exact hS) | (apply mk_is (num2' hnm); exact hS) | (apply mk_is (num3 n); exact hS) | (apply mk_is (num3' n m); exact hS) | (apply mk_is (num4 hk); exact hS) | (apply mk_is (num4' hk); exact hS) | (apply mk_is (num5 hk); exact hS) | (apply mk_is (num5' hk); exact hS)); clear hS; rintro v w1 ⟨rfl, hS⟩)
      | (apply RO.op; apply OP.callF; rfl; rfl; rfl; show Cl _ 9 _ _ _; exact awake_calls hS; clear hS; rintro v w1 ⟨rfl, hS⟩)
      | refine Run.seq ?_
      | refine Run.region ?_
      | (refine RO.split ?_ ?_ <;> intro hc <;> try (exfalso; omega))
      | refine RO.nil ?_
      | refine RO.still (by first | (apply Still.move; rfl) | (apply Still.assign; rfl) | (apply Still.load; rfl; rfl; (first | (focus (apply Rd.own; (repeat (first | apply Has.head | apply Has.tail)); done)) | (focus (apply Rd.ro; (repeat (first | apply List.Mem.head | apply List.Mem.tail)); done)) | (focus ((repeat (first | assumption | apply Rd.tail)); done))); (first | rfl | exact flat_get0 (by assumption) | exact flat_get1 (by assumption) | exact flat_get2 (by assumption) | exact flat_get3 (by assumption) | exact flat_get4 (by assumption))) | (apply Still.fieldAddr; rfl; (first | exact Eq.refl (some 0) | exact Eq.refl (some 1) | exact Eq.refl (some 2) | exact Eq.refl (some 3) | exact Eq.refl (some 4) | exact Eq.refl (some 5) | exact Eq.refl (some 6) | exact Eq.refl (some 7) | exact Eq.refl (some 8) | exact Eq.refl (some 9) | exact Eq.refl (some 10) | exact Eq.refl (some 11) | exact offAdd_zero rfl | exact offAdd_of (k := 1) rfl | exact offAdd_of (k := 2) rfl | exact offAdd_of (k := 3) rfl | exact offAdd_of (k := 4) rfl | exact offAdd_of (k := 5) rfl | exact offAdd_of (k := 6) rfl | exact offAdd_of (k := 7) rfl | exact offAdd_of (k := 8) rfl | exact offAdd_of (k := 9) rfl | exact offAdd_of (k := 10) rfl | exact offAdd_of (k := 11) rfl | rfl)) | (apply Still.nilCheck; rfl) | (apply Still.extract; rfl; rfl) | (apply Still.loadAgg; rfl; rfl; (first | exact Eq.refl (some 0) | exact Eq.refl (some 1) | exact Eq.refl (some 2) | exact Eq.refl (some 3) | exact Eq.refl (some 4) | exact Eq.refl (some 5) | exact Eq.refl (some 6) | exact Eq.refl (some 7) | exact Eq.refl (some 8) | exact Eq.refl (some 9) | exact Eq.refl (some 10) | exact Eq.refl (some 11) | exact offAdd_zero rfl | exact offAdd_of (k := 1) rfl | exact offAdd_of (k := 2) rfl | exact offAdd_of (k := 3) rfl | exact offAdd_of (k := 4) rfl | exact offAdd_of (k := 5) rfl | exact offAdd_of (k := 6) rfl | exact offAdd_of (k := 7) rfl | exact offAdd_of (k := 8) rfl | exact offAdd_of (k := 9) rfl | exact offAdd_of (k := 10) rfl | exact offAdd_of (k := 11) rfl | rfl); (first | (focus (apply Rd.own; (repeat (first | apply Has.head | apply Has.tail)); done)) | (focus (apply Rd.ro; (repeat (first | apply List.Mem.head | apply List.Mem.tail)); done)) | (focus ((repeat (first | assumption | apply Rd.tail)); done))); (first | exact flat_take (by assumption) | rfl); rfl) | (apply Still.pickT; rfl; rfl) | (apply Still.pickF; rfl; rfl) | (apply Still.lss; rfl; rfl) | (apply Still.leq; rfl; rfl) | (apply Still.gtr; rfl; rfl) | (apply Still.geq; rfl; rfl) | (apply Still.eql; rfl; rfl) | (apply Still.neq; rfl; rfl) | (apply Still.not; rfl; rfl) | (apply Still.add; rfl; rfl; (first | exact wrap_i64 (by omega) (by omega) | exact wrap_u64 (by omega) (by omega) | rfl)) | (apply Still.sub; rfl; rfl; (first | exact wrap_i64 (by omega) (by omega) | exact wrap_u64 (by omega) (by omega) | rfl)) | (apply Still.mul; rfl; rfl; (first | exact wrap_i64 (by omega) (by omega) | exact wrap_u64 (by omega) (by omega) | rfl)) | (apply Still.makeFunc; rfl; rfl) | (apply Still.lenSlice; rfl; rfl) | (apply Still.lenString; rfl; rfl) | (apply Still.build; rfl; rfl) | (apply Still.indexAddr; rfl; rfl; rfl; (first | exact Eq.refl (some 0) | exact Eq.refl (some 1) | exact Eq.refl (some 2) | exact Eq.refl (some 3) | exact Eq.refl (some 4) | exact Eq.refl (some 5) | exact Eq.refl (some 6) | exact Eq.refl (some 7) | exact Eq.refl (some 8) | exact Eq.refl (some 9) | exact Eq.refl (some 10) | exact Eq.refl (some 11) | exact offAdd_zero rfl | exact offAdd_of (k := 1) rfl | exact offAdd_of (k := 2) rfl | exact offAdd_of (k := 3) rfl | exact offAdd_of (k := 4) rfl | exact offAdd_of (k := 5) rfl | exact offAdd_of (k := 6) rfl | exact offAdd_of (k := 7) rfl | exact offAdd_of (k := 8) rfl | exact offAdd_of (k := 9) rfl | exact offAdd_of (k := 10) rfl | exact offAdd_of (k := 11) rfl | rfl); omega; omega; (first | (simp only [Int.toNat_natCast, Nat.mul_one, Nat.zero_add, Int.reduceToNat, Nat.reduceMul, Nat.reduceAdd, Nat.zero_mul]; exact rfl) | rfl)) | (apply Still.eqlB; rfl; rfl; rfl) | (apply Still.neqB; rfl; rfl; rfl) | (apply Still.eqlS; rfl; rfl) | (apply Still.neqS; rfl; rfl) | (apply Still.nilCheckF; rfl) | (apply Still.index; rfl; rfl; rfl; rfl; (first | exact Eq.refl (some 0) | exact Eq.refl (some 1) | exact Eq.refl (some 2) | exact Eq.refl (some 3) | exact Eq.refl (some 4) | exact Eq.refl (some 5) | exact Eq.refl (some 6) | exact Eq.refl (some 7) | exact Eq.refl (some 8) | exact Eq.refl (some 9) | exact Eq.refl (some 10) | exact Eq.refl (some 11) | exact offAdd_zero rfl | exact offAdd_of (k := 1) rfl | exact offAdd_of (k := 2) rfl | exact offAdd_of (k := 3) rfl | exact offAdd_of (k := 4) rfl | exact offAdd_of (k := 5) rfl | exact offAdd_of (k := 6) rfl | exact offAdd_of (k := 7) rfl | exact offAdd_of (k := 8) rfl | exact offAdd_of (k := 9) rfl | exact offAdd_of (k := 10) rfl | exact offAdd_of (k := 11) rfl | rfl); omega; omega; (first | (simp only [Int.toNat_natCast, Nat.mul_one, Nat.zero_add, Int.reduceToNat, Nat.reduceMul, Nat.reduceAdd, Nat.zero_mul]; exact rfl) | rfl); rfl) | (apply Still.sliceNil; rfl; rfl; rfl; rfl) | (apply Still.sliceNotNil; rfl; rfl; rfl; rfl) | (apply Still.mapNil; rfl; rfl; rfl; rfl) | (apply Still.ptrNil; rfl; rfl; rfl; rfl) | (apply Still.makeInterface; rfl; rfl) | (apply Still.assertMap; rfl; rfl) | (apply Still.maxI; rfl; rfl; rfl) | (apply Still.minI; rfl; rfl; rfl)) hS rfl ?_
      | (apply RO.op; apply OP.box hS; rfl; rfl; rfl; clear hS; intro b w1 hS)
      | (apply RO.op; apply OP.alloc hS; rfl; rfl; rfl; clear hS; intro b w1 hS)
      | (apply RO.op; apply OP.store hS; rfl; rfl; rfl; rfl; rfl; ((repeat (first | apply Has.head | apply Take.head | apply Put.head | apply Has.tail | apply Take.tail | apply Put.tail))); rfl; rfl; clear hS; intro w1 hS)
      | (apply RO.op; apply OP.buildSlice hS; rfl; rfl; (first | exact Eq.refl (some 0) | exact Eq.refl (some 1) | exact Eq.refl (some 2) | exact Eq.refl (some 3) | exact Eq.refl (some 4) | exact Eq.refl (some 5) | exact Eq.refl (some 6) | exact Eq.refl (some 7) | exact Eq.refl (some 8) | exact Eq.refl (some 9) | exact Eq.refl (some 10) | exact Eq.refl (some 11) | exact offAdd_zero rfl | exact offAdd_of (k := 1) rfl | exact offAdd_of (k := 2) rfl | exact offAdd_of (k := 3) rfl | exact offAdd_of (k := 4) rfl | exact offAdd_of (k := 5) rfl | exact offAdd_of (k := 6) rfl | exact offAdd_of (k := 7) rfl | exact offAdd_of (k := 8) rfl | exact offAdd_of (k := 9) rfl | exact offAdd_of (k := 10) rfl | exact offAdd_of (k := 11) rfl | rfl); rfl; rfl; rfl; rfl; rfl; clear hS; intro b w1 hS)
      | (apply RO.op; apply OP.makeMap hS; rfl; clear hS; intro b w1 hS)
      | refine RO.yes rfl rfl ?_
      | refine RO.no rfl rfl rfl rfl ?_
      | refine RO.noUndef rfl rfl rfl ?_
      | refine RO.noNone rfl rfl rfl ?_
      | refine Run.cond_true rfl ?_
      | refine Run.cond_false rfl ?_
      | refine Run.skip ?_
      | refine Run.block ?_
      | refine Run.inBlock ?_
      | refine Run.exit rfl ?_
  all_goals first
    | (refine Run.ret Try.func6 rfl (.tmp rfl .nil) ?_
       exact ⟨rfl, hS.picks (by (repeat (first | apply Picks.all | apply Picks.nil | (refine Picks.cons (by repeat (first | apply Take.head | apply Take.tail)) ?_) | apply Picks.drop)))⟩)
    | (exfalso; omega)
    | (exact absurd rfl (by assumption))
end
end Go.Proofs.Ytjhknlmjdhdlpaa
