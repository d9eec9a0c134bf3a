/-
  The layer of recipes in the program: parts, right, used.
-/
import Derived.Test.YthejfodjielahaaKnow9
import Derived.Test.YthejfodjielahaaRecipePure
namespace Go.Proofs.Ythejfodjielahaa
set_option maxRecDepth 8000
set_option linter.unusedSimpArgs false
set_option linter.unusedVariables false
open Go Go.RowKit

section
variable {we w : World} {ρ : List (Nat × Obj)} {σ F : List HP} {kb p lim cb : Nat} {L : List Nd} {K : Int → Bool} {u v : Value} {heard made : List Int}

theorem rparts_calls (hS : St we ρ σ w) : Cl Try.prog 36 [] w fun v w' => v = .agg partsV.toArray ∧ St we ρ σ w' := by
  refine Run.calls0 (n := 2) Try.func36 rfl rfl ?_
  repeat' first
    | refine Run.seq ?_
    | refine Run.region ?_
    | (refine RO.split ?_ ?_ <;> intro hc <;> try (first | (exfalso; omega) | exact absurd rfl hc | exact Bool.noConfusion hc))
    | refine RO.nil ?_
    | refine RO.still (by exact Still.any) hS rfl ?_
    | (apply RO.op; apply OP.box hS; rfl; rfl; rfl; clear hS; intro b w1 hS)
    | (apply RO.op; apply OP.alloc hS; rfl; rfl; rfl; clear hS; intro b w1 hS)
    | (apply RO.op; apply OP.store hS; rfl; rfl; rfl; rfl; rfl; (focus ((repeat (first | apply Has.head | apply Take.head | apply Put.head | apply Has.tail | apply Take.tail | apply Put.tail)); done)); rfl; rfl; clear hS; intro w1 hS)
    | (apply RO.op; apply OP.buildSlice hS; rfl; rfl; (exact eqAuto); rfl; rfl; rfl; rfl; rfl; clear hS; intro b w1 hS)
    | (apply RO.op; apply OP.makeMap hS; rfl; clear hS; intro b w1 hS)
    | refine RO.yes rfl rfl ?_
    | refine RO.no rfl rfl rfl rfl ?_
    | refine RO.noUndef rfl rfl rfl ?_
    | refine RO.noNone rfl rfl rfl ?_
    | refine Run.cond_true rfl ?_
    | refine Run.cond_false rfl ?_
    | refine Run.skip ?_
    | refine Run.block ?_
    | refine Run.inBlock ?_
    | refine Run.exit rfl ?_
  refine Run.ret Try.func36 rfl (.cell rfl (by first | exact run_loadAgg rfl rfl (hS.rd (by exact Rd.any)) (by rfl) (by rfl) | exact run_loadScalar rfl (cell_of (hS.rd (by exact Rd.any)) (by rfl))) .nil) ?_
  exact ⟨rfl, hS.picks (by focus ((repeat (first | apply Picks.all | apply Picks.nil | (refine Picks.cons (by repeat (first | apply Take.head | apply Take.tail)) ?_) | apply Picks.drop)); done))⟩

set_option maxHeartbeats 4000000 in
theorem rright0 {n x y z : Int} (hn : 0 ≤ n ∧ n ≤ 18446744073709551615) (hS : St we ρ σ w) : Cl Try.prog 34 [.agg ([Value.int .i64 0, Value.int .u64 n, Value.int .i64 x, Value.int .i64 y, Value.int .i64 z]).toArray] w fun v w' => v = .bool (decide (n = 0 ∧ y = 0 ∧ z = 0)) ∧ St we ρ σ w' := by
  refine Run.calls1 (n := 86) Try.func34 rfl rfl rfl ?_
  repeat' first
    | (refine Run.regionQ_of hS (by rfl) (by kernel_rfl) ?_; clear hS)
    | (apply RQ.callF; rfl; rfl; rfl; (show ∀ w, _ → Cl _ 36 _ _ _; exact fun w hS => rparts_calls hS))
    | (refine RQ.split ?_ ?_ <;> intro hc <;> try (first | (exfalso; omega) | exact absurd rfl hc | exact Bool.noConfusion hc))
    | (refine RQ.nil ?_; (try clear hS); intro w1 hS)
    | refine RQ.still (by exact Still.any) rfl ?_
    | refine RQ.yes rfl rfl ?_
    | refine RQ.no rfl rfl rfl rfl ?_
    | refine RQ.noUndef rfl rfl rfl ?_
    | refine Run.seq ?_
    | refine Run.region ?_
    | (refine RO.split ?_ ?_ <;> intro hc <;> try (first | (exfalso; omega) | exact absurd rfl hc | exact Bool.noConfusion hc))
    | refine RO.nil ?_
    | refine RO.still (by exact Still.any) hS rfl ?_
    | (apply RO.op; apply OP.box hS; rfl; rfl; rfl; clear hS; intro b w1 hS)
    | (apply RO.op; apply OP.alloc hS; rfl; rfl; rfl; clear hS; intro b w1 hS)
    | (apply RO.op; apply OP.store hS; rfl; rfl; rfl; rfl; rfl; (focus ((repeat (first | apply Has.head | apply Take.head | apply Put.head | apply Has.tail | apply Take.tail | apply Put.tail)); done)); rfl; rfl; clear hS; intro w1 hS)
    | (apply RO.op; apply OP.buildSlice hS; rfl; rfl; (exact eqAuto); rfl; rfl; rfl; rfl; rfl; clear hS; intro b w1 hS)
    | (apply RO.op; apply OP.makeMap hS; rfl; clear hS; intro b w1 hS)
    | refine RO.yes rfl rfl ?_
    | refine RO.no rfl rfl rfl rfl ?_
    | refine RO.noUndef rfl rfl rfl ?_
    | refine RO.noNone rfl rfl rfl ?_
    | refine Run.cond_true rfl ?_
    | refine Run.cond_false rfl ?_
    | refine Run.skip ?_
    | refine Run.block ?_
    | refine Run.inBlock ?_
    | refine Run.exit rfl ?_
  all_goals
    refine Run.ret Try.func34 rfl (.tmp rfl .nil) ?_
    refine ⟨?_, hS.picks (by focus ((repeat (first | apply Picks.all | apply Picks.nil | (refine Picks.cons (by repeat (first | apply Take.head | apply Take.tail)) ?_) | apply Picks.drop)); done))⟩
    first
    | (rw [decide_eq_true (show n = 0 ∧ y = 0 ∧ z = 0 by omega)]; rfl)
    | (rw [decide_eq_false (show ¬ (n = 0 ∧ y = 0 ∧ z = 0) by omega)]; rfl)
set_option maxHeartbeats 4000000 in
theorem rright1 {n x y z : Int} (hn : 0 ≤ n ∧ n ≤ 18446744073709551615) (hS : St we ρ σ w) : Cl Try.prog 34 [.agg ([Value.int .i64 1, Value.int .u64 n, Value.int .i64 x, Value.int .i64 y, Value.int .i64 z]).toArray] w fun v w' => v = .bool (decide (n < 1048576 ∧ x = 0 ∧ y = 0 ∧ z = 0)) ∧ St we ρ σ w' := by
  refine Run.calls1 (n := 86) Try.func34 rfl rfl rfl ?_
  repeat' first
    | (refine Run.regionQ_of hS (by rfl) (by kernel_rfl) ?_; clear hS)
    | (apply RQ.callF; rfl; rfl; rfl; (show ∀ w, _ → Cl _ 36 _ _ _; exact fun w hS => rparts_calls hS))
    | (refine RQ.split ?_ ?_ <;> intro hc <;> try (first | (exfalso; omega) | exact absurd rfl hc | exact Bool.noConfusion hc))
    | (refine RQ.nil ?_; (try clear hS); intro w1 hS)
    | refine RQ.still (by exact Still.any) rfl ?_
    | refine RQ.yes rfl rfl ?_
    | refine RQ.no rfl rfl rfl rfl ?_
    | refine RQ.noUndef rfl rfl rfl ?_
    | refine Run.seq ?_
    | refine Run.region ?_
    | (refine RO.split ?_ ?_ <;> intro hc <;> try (first | (exfalso; omega) | exact absurd rfl hc | exact Bool.noConfusion hc))
    | refine RO.nil ?_
    | refine RO.still (by exact Still.any) hS rfl ?_
    | (apply RO.op; apply OP.box hS; rfl; rfl; rfl; clear hS; intro b w1 hS)
    | (apply RO.op; apply OP.alloc hS; rfl; rfl; rfl; clear hS; intro b w1 hS)
    | (apply RO.op; apply OP.store hS; rfl; rfl; rfl; rfl; rfl; (focus ((repeat (first | apply Has.head | apply Take.head | apply Put.head | apply Has.tail | apply Take.tail | apply Put.tail)); done)); rfl; rfl; clear hS; intro w1 hS)
    | (apply RO.op; apply OP.buildSlice hS; rfl; rfl; (exact eqAuto); rfl; rfl; rfl; rfl; rfl; clear hS; intro b w1 hS)
    | (apply RO.op; apply OP.makeMap hS; rfl; clear hS; intro b w1 hS)
    | refine RO.yes rfl rfl ?_
    | refine RO.no rfl rfl rfl rfl ?_
    | refine RO.noUndef rfl rfl rfl ?_
    | refine RO.noNone rfl rfl rfl ?_
    | refine Run.cond_true rfl ?_
    | refine Run.cond_false rfl ?_
    | refine Run.skip ?_
    | refine Run.block ?_
    | refine Run.inBlock ?_
    | refine Run.exit rfl ?_
  all_goals
    refine Run.ret Try.func34 rfl (.tmp rfl .nil) ?_
    refine ⟨?_, hS.picks (by focus ((repeat (first | apply Picks.all | apply Picks.nil | (refine Picks.cons (by repeat (first | apply Take.head | apply Take.tail)) ?_) | apply Picks.drop)); done))⟩
    first
    | (rw [decide_eq_true (show n < 1048576 ∧ x = 0 ∧ y = 0 ∧ z = 0 by omega)]; rfl)
    | (rw [decide_eq_false (show ¬ (n < 1048576 ∧ x = 0 ∧ y = 0 ∧ z = 0) by omega)]; rfl)
set_option maxHeartbeats 4000000 in
theorem rright2 {n x y z : Int} (hn : 0 ≤ n ∧ n ≤ 18446744073709551615) (hS : St we ρ σ w) : Cl Try.prog 34 [.agg ([Value.int .i64 2, Value.int .u64 n, Value.int .i64 x, Value.int .i64 y, Value.int .i64 z]).toArray] w fun v w' => v = .bool (decide (n = 0 ∧ y = 0 ∧ z = 0)) ∧ St we ρ σ w' := by
  refine Run.calls1 (n := 86) Try.func34 rfl rfl rfl ?_
  repeat' first
    | (refine Run.regionQ_of hS (by rfl) (by kernel_rfl) ?_; clear hS)
    | (apply RQ.callF; rfl; rfl; rfl; (show ∀ w, _ → Cl _ 36 _ _ _; exact fun w hS => rparts_calls hS))
    | (refine RQ.split ?_ ?_ <;> intro hc <;> try (first | (exfalso; omega) | exact absurd rfl hc | exact Bool.noConfusion hc))
    | (refine RQ.nil ?_; (try clear hS); intro w1 hS)
    | refine RQ.still (by exact Still.any) rfl ?_
    | refine RQ.yes rfl rfl ?_
    | refine RQ.no rfl rfl rfl rfl ?_
    | refine RQ.noUndef rfl rfl rfl ?_
    | refine Run.seq ?_
    | refine Run.region ?_
    | (refine RO.split ?_ ?_ <;> intro hc <;> try (first | (exfalso; omega) | exact absurd rfl hc | exact Bool.noConfusion hc))
    | refine RO.nil ?_
    | refine RO.still (by exact Still.any) hS rfl ?_
    | (apply RO.op; apply OP.box hS; rfl; rfl; rfl; clear hS; intro b w1 hS)
    | (apply RO.op; apply OP.alloc hS; rfl; rfl; rfl; clear hS; intro b w1 hS)
    | (apply RO.op; apply OP.store hS; rfl; rfl; rfl; rfl; rfl; (focus ((repeat (first | apply Has.head | apply Take.head | apply Put.head | apply Has.tail | apply Take.tail | apply Put.tail)); done)); rfl; rfl; clear hS; intro w1 hS)
    | (apply RO.op; apply OP.buildSlice hS; rfl; rfl; (exact eqAuto); rfl; rfl; rfl; rfl; rfl; clear hS; intro b w1 hS)
    | (apply RO.op; apply OP.makeMap hS; rfl; clear hS; intro b w1 hS)
    | refine RO.yes rfl rfl ?_
    | refine RO.no rfl rfl rfl rfl ?_
    | refine RO.noUndef rfl rfl rfl ?_
    | refine RO.noNone rfl rfl rfl ?_
    | refine Run.cond_true rfl ?_
    | refine Run.cond_false rfl ?_
    | refine Run.skip ?_
    | refine Run.block ?_
    | refine Run.inBlock ?_
    | refine Run.exit rfl ?_
  all_goals
    refine Run.ret Try.func34 rfl (.tmp rfl .nil) ?_
    refine ⟨?_, hS.picks (by focus ((repeat (first | apply Picks.all | apply Picks.nil | (refine Picks.cons (by repeat (first | apply Take.head | apply Take.tail)) ?_) | apply Picks.drop)); done))⟩
    first
    | (rw [decide_eq_true (show n = 0 ∧ y = 0 ∧ z = 0 by omega)]; rfl)
    | (rw [decide_eq_false (show ¬ (n = 0 ∧ y = 0 ∧ z = 0) by omega)]; rfl)
set_option maxHeartbeats 4000000 in
theorem rright3 {n x y z : Int} (hn : 0 ≤ n ∧ n ≤ 18446744073709551615) (hS : St we ρ σ w) : Cl Try.prog 34 [.agg ([Value.int .i64 3, Value.int .u64 n, Value.int .i64 x, Value.int .i64 y, Value.int .i64 z]).toArray] w fun v w' => v = .bool (decide (n = 0 ∧ z = 0)) ∧ St we ρ σ w' := by
  refine Run.calls1 (n := 86) Try.func34 rfl rfl rfl ?_
  repeat' first
    | (refine Run.regionQ_of hS (by rfl) (by kernel_rfl) ?_; clear hS)
    | (apply RQ.callF; rfl; rfl; rfl; (show ∀ w, _ → Cl _ 36 _ _ _; exact fun w hS => rparts_calls hS))
    | (refine RQ.split ?_ ?_ <;> intro hc <;> try (first | (exfalso; omega) | exact absurd rfl hc | exact Bool.noConfusion hc))
    | (refine RQ.nil ?_; (try clear hS); intro w1 hS)
    | refine RQ.still (by exact Still.any) rfl ?_
    | refine RQ.yes rfl rfl ?_
    | refine RQ.no rfl rfl rfl rfl ?_
    | refine RQ.noUndef rfl rfl rfl ?_
    | refine Run.seq ?_
    | refine Run.region ?_
    | (refine RO.split ?_ ?_ <;> intro hc <;> try (first | (exfalso; omega) | exact absurd rfl hc | exact Bool.noConfusion hc))
    | refine RO.nil ?_
    | refine RO.still (by exact Still.any) hS rfl ?_
    | (apply RO.op; apply OP.box hS; rfl; rfl; rfl; clear hS; intro b w1 hS)
    | (apply RO.op; apply OP.alloc hS; rfl; rfl; rfl; clear hS; intro b w1 hS)
    | (apply RO.op; apply OP.store hS; rfl; rfl; rfl; rfl; rfl; (focus ((repeat (first | apply Has.head | apply Take.head | apply Put.head | apply Has.tail | apply Take.tail | apply Put.tail)); done)); rfl; rfl; clear hS; intro w1 hS)
    | (apply RO.op; apply OP.buildSlice hS; rfl; rfl; (exact eqAuto); rfl; rfl; rfl; rfl; rfl; clear hS; intro b w1 hS)
    | (apply RO.op; apply OP.makeMap hS; rfl; clear hS; intro b w1 hS)
    | refine RO.yes rfl rfl ?_
    | refine RO.no rfl rfl rfl rfl ?_
    | refine RO.noUndef rfl rfl rfl ?_
    | refine RO.noNone rfl rfl rfl ?_
    | refine Run.cond_true rfl ?_
    | refine Run.cond_false rfl ?_
    | refine Run.skip ?_
    | refine Run.block ?_
    | refine Run.inBlock ?_
    | refine Run.exit rfl ?_
  all_goals
    refine Run.ret Try.func34 rfl (.tmp rfl .nil) ?_
    refine ⟨?_, hS.picks (by focus ((repeat (first | apply Picks.all | apply Picks.nil | (refine Picks.cons (by repeat (first | apply Take.head | apply Take.tail)) ?_) | apply Picks.drop)); done))⟩
    first
    | (rw [decide_eq_true (show n = 0 ∧ z = 0 by omega)]; rfl)
    | (rw [decide_eq_false (show ¬ (n = 0 ∧ z = 0) by omega)]; rfl)
set_option maxHeartbeats 4000000 in
theorem rright5 {n x y z : Int} (hn : 0 ≤ n ∧ n ≤ 18446744073709551615) (hS : St we ρ σ w) : Cl Try.prog 34 [.agg ([Value.int .i64 5, Value.int .u64 n, Value.int .i64 x, Value.int .i64 y, Value.int .i64 z]).toArray] w fun v w' => v = .bool (decide (n = 0 ∧ z = 0)) ∧ St we ρ σ w' := by
  refine Run.calls1 (n := 86) Try.func34 rfl rfl rfl ?_
  repeat' first
    | (refine Run.regionQ_of hS (by rfl) (by kernel_rfl) ?_; clear hS)
    | (apply RQ.callF; rfl; rfl; rfl; (show ∀ w, _ → Cl _ 36 _ _ _; exact fun w hS => rparts_calls hS))
    | (refine RQ.split ?_ ?_ <;> intro hc <;> try (first | (exfalso; omega) | exact absurd rfl hc | exact Bool.noConfusion hc))
    | (refine RQ.nil ?_; (try clear hS); intro w1 hS)
    | refine RQ.still (by exact Still.any) rfl ?_
    | refine RQ.yes rfl rfl ?_
    | refine RQ.no rfl rfl rfl rfl ?_
    | refine RQ.noUndef rfl rfl rfl ?_
    | refine Run.seq ?_
    | refine Run.region ?_
    | (refine RO.split ?_ ?_ <;> intro hc <;> try (first | (exfalso; omega) | exact absurd rfl hc | exact Bool.noConfusion hc))
    | refine RO.nil ?_
    | refine RO.still (by exact Still.any) hS rfl ?_
    | (apply RO.op; apply OP.box hS; rfl; rfl; rfl; clear hS; intro b w1 hS)
    | (apply RO.op; apply OP.alloc hS; rfl; rfl; rfl; clear hS; intro b w1 hS)
    | (apply RO.op; apply OP.store hS; rfl; rfl; rfl; rfl; rfl; (focus ((repeat (first | apply Has.head | apply Take.head | apply Put.head | apply Has.tail | apply Take.tail | apply Put.tail)); done)); rfl; rfl; clear hS; intro w1 hS)
    | (apply RO.op; apply OP.buildSlice hS; rfl; rfl; (exact eqAuto); rfl; rfl; rfl; rfl; rfl; clear hS; intro b w1 hS)
    | (apply RO.op; apply OP.makeMap hS; rfl; clear hS; intro b w1 hS)
    | refine RO.yes rfl rfl ?_
    | refine RO.no rfl rfl rfl rfl ?_
    | refine RO.noUndef rfl rfl rfl ?_
    | refine RO.noNone rfl rfl rfl ?_
    | refine Run.cond_true rfl ?_
    | refine Run.cond_false rfl ?_
    | refine Run.skip ?_
    | refine Run.block ?_
    | refine Run.inBlock ?_
    | refine Run.exit rfl ?_
  all_goals
    refine Run.ret Try.func34 rfl (.tmp rfl .nil) ?_
    refine ⟨?_, hS.picks (by focus ((repeat (first | apply Picks.all | apply Picks.nil | (refine Picks.cons (by repeat (first | apply Take.head | apply Take.tail)) ?_) | apply Picks.drop)); done))⟩
    first
    | (rw [decide_eq_true (show n = 0 ∧ z = 0 by omega)]; rfl)
    | (rw [decide_eq_false (show ¬ (n = 0 ∧ z = 0) by omega)]; rfl)
set_option maxHeartbeats 4000000 in
theorem rright6 {n x y z : Int} (hn : 0 ≤ n ∧ n ≤ 18446744073709551615) (hS : St we ρ σ w) : Cl Try.prog 34 [.agg ([Value.int .i64 6, Value.int .u64 n, Value.int .i64 x, Value.int .i64 y, Value.int .i64 z]).toArray] w fun v w' => v = .bool (decide (z = 0)) ∧ St we ρ σ w' := by
  refine Run.calls1 (n := 86) Try.func34 rfl rfl rfl ?_
  repeat' first
    | (refine Run.regionQ_of hS (by rfl) (by kernel_rfl) ?_; clear hS)
    | (apply RQ.callF; rfl; rfl; rfl; (show ∀ w, _ → Cl _ 36 _ _ _; exact fun w hS => rparts_calls hS))
    | (refine RQ.split ?_ ?_ <;> intro hc <;> try (first | (exfalso; omega) | exact absurd rfl hc | exact Bool.noConfusion hc))
    | (refine RQ.nil ?_; (try clear hS); intro w1 hS)
    | refine RQ.still (by exact Still.any) rfl ?_
    | refine RQ.yes rfl rfl ?_
    | refine RQ.no rfl rfl rfl rfl ?_
    | refine RQ.noUndef rfl rfl rfl ?_
    | refine Run.seq ?_
    | refine Run.region ?_
    | (refine RO.split ?_ ?_ <;> intro hc <;> try (first | (exfalso; omega) | exact absurd rfl hc | exact Bool.noConfusion hc))
    | refine RO.nil ?_
    | refine RO.still (by exact Still.any) hS rfl ?_
    | (apply RO.op; apply OP.box hS; rfl; rfl; rfl; clear hS; intro b w1 hS)
    | (apply RO.op; apply OP.alloc hS; rfl; rfl; rfl; clear hS; intro b w1 hS)
    | (apply RO.op; apply OP.store hS; rfl; rfl; rfl; rfl; rfl; (focus ((repeat (first | apply Has.head | apply Take.head | apply Put.head | apply Has.tail | apply Take.tail | apply Put.tail)); done)); rfl; rfl; clear hS; intro w1 hS)
    | (apply RO.op; apply OP.buildSlice hS; rfl; rfl; (exact eqAuto); rfl; rfl; rfl; rfl; rfl; clear hS; intro b w1 hS)
    | (apply RO.op; apply OP.makeMap hS; rfl; clear hS; intro b w1 hS)
    | refine RO.yes rfl rfl ?_
    | refine RO.no rfl rfl rfl rfl ?_
    | refine RO.noUndef rfl rfl rfl ?_
    | refine RO.noNone rfl rfl rfl ?_
    | refine Run.cond_true rfl ?_
    | refine Run.cond_false rfl ?_
    | refine Run.skip ?_
    | refine Run.block ?_
    | refine Run.inBlock ?_
    | refine Run.exit rfl ?_
  all_goals
    refine Run.ret Try.func34 rfl (.tmp rfl .nil) ?_
    refine ⟨?_, hS.picks (by focus ((repeat (first | apply Picks.all | apply Picks.nil | (refine Picks.cons (by repeat (first | apply Take.head | apply Take.tail)) ?_) | apply Picks.drop)); done))⟩
    first
    | (rw [decide_eq_true (show z = 0 by omega)]; rfl)
    | (rw [decide_eq_false (show ¬ (z = 0) by omega)]; rfl)
set_option maxHeartbeats 4000000 in
theorem rright7 {n x y z : Int} (hn : 0 ≤ n ∧ n ≤ 18446744073709551615) (hS : St we ρ σ w) : Cl Try.prog 34 [.agg ([Value.int .i64 7, Value.int .u64 n, Value.int .i64 x, Value.int .i64 y, Value.int .i64 z]).toArray] w fun v w' => v = .bool (decide (True)) ∧ St we ρ σ w' := by
  refine Run.calls1 (n := 86) Try.func34 rfl rfl rfl ?_
  repeat' first
    | (refine Run.regionQ_of hS (by rfl) (by kernel_rfl) ?_; clear hS)
    | (apply RQ.callF; rfl; rfl; rfl; (show ∀ w, _ → Cl _ 36 _ _ _; exact fun w hS => rparts_calls hS))
    | (refine RQ.split ?_ ?_ <;> intro hc <;> try (first | (exfalso; omega) | exact absurd rfl hc | exact Bool.noConfusion hc))
    | (refine RQ.nil ?_; (try clear hS); intro w1 hS)
    | refine RQ.still (by exact Still.any) rfl ?_
    | refine RQ.yes rfl rfl ?_
    | refine RQ.no rfl rfl rfl rfl ?_
    | refine RQ.noUndef rfl rfl rfl ?_
    | refine Run.seq ?_
    | refine Run.region ?_
    | (refine RO.split ?_ ?_ <;> intro hc <;> try (first | (exfalso; omega) | exact absurd rfl hc | exact Bool.noConfusion hc))
    | refine RO.nil ?_
    | refine RO.still (by exact Still.any) hS rfl ?_
    | (apply RO.op; apply OP.box hS; rfl; rfl; rfl; clear hS; intro b w1 hS)
    | (apply RO.op; apply OP.alloc hS; rfl; rfl; rfl; clear hS; intro b w1 hS)
    | (apply RO.op; apply OP.store hS; rfl; rfl; rfl; rfl; rfl; (focus ((repeat (first | apply Has.head | apply Take.head | apply Put.head | apply Has.tail | apply Take.tail | apply Put.tail)); done)); rfl; rfl; clear hS; intro w1 hS)
    | (apply RO.op; apply OP.buildSlice hS; rfl; rfl; (exact eqAuto); rfl; rfl; rfl; rfl; rfl; clear hS; intro b w1 hS)
    | (apply RO.op; apply OP.makeMap hS; rfl; clear hS; intro b w1 hS)
    | refine RO.yes rfl rfl ?_
    | refine RO.no rfl rfl rfl rfl ?_
    | refine RO.noUndef rfl rfl rfl ?_
    | refine RO.noNone rfl rfl rfl ?_
    | refine Run.cond_true rfl ?_
    | refine Run.cond_false rfl ?_
    | refine Run.skip ?_
    | refine Run.block ?_
    | refine Run.inBlock ?_
    | refine Run.exit rfl ?_
  all_goals
    refine Run.ret Try.func34 rfl (.tmp rfl .nil) ?_
    refine ⟨?_, hS.picks (by focus ((repeat (first | apply Picks.all | apply Picks.nil | (refine Picks.cons (by repeat (first | apply Take.head | apply Take.tail)) ?_) | apply Picks.drop)); done))⟩
    first
    | (rw [decide_eq_true (trivial : True)]; rfl)
    | fail
set_option maxHeartbeats 4000000 in
theorem rright8 {n x y z : Int} (hn : 0 ≤ n ∧ n ≤ 18446744073709551615) (hS : St we ρ σ w) : Cl Try.prog 34 [.agg ([Value.int .i64 8, Value.int .u64 n, Value.int .i64 x, Value.int .i64 y, Value.int .i64 z]).toArray] w fun v w' => v = .bool (decide (n = 0 ∧ z = 0)) ∧ St we ρ σ w' := by
  refine Run.calls1 (n := 86) Try.func34 rfl rfl rfl ?_
  repeat' first
    | (refine Run.regionQ_of hS (by rfl) (by kernel_rfl) ?_; clear hS)
    | (apply RQ.callF; rfl; rfl; rfl; (show ∀ w, _ → Cl _ 36 _ _ _; exact fun w hS => rparts_calls hS))
    | (refine RQ.split ?_ ?_ <;> intro hc <;> try (first | (exfalso; omega) | exact absurd rfl hc | exact Bool.noConfusion hc))
    | (refine RQ.nil ?_; (try clear hS); intro w1 hS)
    | refine RQ.still (by exact Still.any) rfl ?_
    | refine RQ.yes rfl rfl ?_
    | refine RQ.no rfl rfl rfl rfl ?_
    | refine RQ.noUndef rfl rfl rfl ?_
    | refine Run.seq ?_
    | refine Run.region ?_
    | (refine RO.split ?_ ?_ <;> intro hc <;> try (first | (exfalso; omega) | exact absurd rfl hc | exact Bool.noConfusion hc))
    | refine RO.nil ?_
    | refine RO.still (by exact Still.any) hS rfl ?_
    | (apply RO.op; apply OP.box hS; rfl; rfl; rfl; clear hS; intro b w1 hS)
    | (apply RO.op; apply OP.alloc hS; rfl; rfl; rfl; clear hS; intro b w1 hS)
    | (apply RO.op; apply OP.store hS; rfl; rfl; rfl; rfl; rfl; (focus ((repeat (first | apply Has.head | apply Take.head | apply Put.head | apply Has.tail | apply Take.tail | apply Put.tail)); done)); rfl; rfl; clear hS; intro w1 hS)
    | (apply RO.op; apply OP.buildSlice hS; rfl; rfl; (exact eqAuto); rfl; rfl; rfl; rfl; rfl; clear hS; intro b w1 hS)
    | (apply RO.op; apply OP.makeMap hS; rfl; clear hS; intro b w1 hS)
    | refine RO.yes rfl rfl ?_
    | refine RO.no rfl rfl rfl rfl ?_
    | refine RO.noUndef rfl rfl rfl ?_
    | refine RO.noNone rfl rfl rfl ?_
    | refine Run.cond_true rfl ?_
    | refine Run.cond_false rfl ?_
    | refine Run.skip ?_
    | refine Run.block ?_
    | refine Run.inBlock ?_
    | refine Run.exit rfl ?_
  all_goals
    refine Run.ret Try.func34 rfl (.tmp rfl .nil) ?_
    refine ⟨?_, hS.picks (by focus ((repeat (first | apply Picks.all | apply Picks.nil | (refine Picks.cons (by repeat (first | apply Take.head | apply Take.tail)) ?_) | apply Picks.drop)); done))⟩
    first
    | (rw [decide_eq_true (show n = 0 ∧ z = 0 by omega)]; rfl)
    | (rw [decide_eq_false (show ¬ (n = 0 ∧ z = 0) by omega)]; rfl)
set_option maxHeartbeats 4000000 in
theorem rright9 {n x y z : Int} (hn : 0 ≤ n ∧ n ≤ 18446744073709551615) (hS : St we ρ σ w) : Cl Try.prog 34 [.agg ([Value.int .i64 9, Value.int .u64 n, Value.int .i64 x, Value.int .i64 y, Value.int .i64 z]).toArray] w fun v w' => v = .bool (decide (x = 0 ∧ y = 0 ∧ z = 0)) ∧ St we ρ σ w' := by
  refine Run.calls1 (n := 86) Try.func34 rfl rfl rfl ?_
  repeat' first
    | (refine Run.regionQ_of hS (by rfl) (by kernel_rfl) ?_; clear hS)
    | (apply RQ.callF; rfl; rfl; rfl; (show ∀ w, _ → Cl _ 36 _ _ _; exact fun w hS => rparts_calls hS))
    | (refine RQ.split ?_ ?_ <;> intro hc <;> try (first | (exfalso; omega) | exact absurd rfl hc | exact Bool.noConfusion hc))
    | (refine RQ.nil ?_; (try clear hS); intro w1 hS)
    | refine RQ.still (by exact Still.any) rfl ?_
    | refine RQ.yes rfl rfl ?_
    | refine RQ.no rfl rfl rfl rfl ?_
    | refine RQ.noUndef rfl rfl rfl ?_
    | refine Run.seq ?_
    | refine Run.region ?_
    | (refine RO.split ?_ ?_ <;> intro hc <;> try (first | (exfalso; omega) | exact absurd rfl hc | exact Bool.noConfusion hc))
    | refine RO.nil ?_
    | refine RO.still (by exact Still.any) hS rfl ?_
    | (apply RO.op; apply OP.box hS; rfl; rfl; rfl; clear hS; intro b w1 hS)
    | (apply RO.op; apply OP.alloc hS; rfl; rfl; rfl; clear hS; intro b w1 hS)
    | (apply RO.op; apply OP.store hS; rfl; rfl; rfl; rfl; rfl; (focus ((repeat (first | apply Has.head | apply Take.head | apply Put.head | apply Has.tail | apply Take.tail | apply Put.tail)); done)); rfl; rfl; clear hS; intro w1 hS)
    | (apply RO.op; apply OP.buildSlice hS; rfl; rfl; (exact eqAuto); rfl; rfl; rfl; rfl; rfl; clear hS; intro b w1 hS)
    | (apply RO.op; apply OP.makeMap hS; rfl; clear hS; intro b w1 hS)
    | refine RO.yes rfl rfl ?_
    | refine RO.no rfl rfl rfl rfl ?_
    | refine RO.noUndef rfl rfl rfl ?_
    | refine RO.noNone rfl rfl rfl ?_
    | refine Run.cond_true rfl ?_
    | refine Run.cond_false rfl ?_
    | refine Run.skip ?_
    | refine Run.block ?_
    | refine Run.inBlock ?_
    | refine Run.exit rfl ?_
  all_goals
    refine Run.ret Try.func34 rfl (.tmp rfl .nil) ?_
    refine ⟨?_, hS.picks (by focus ((repeat (first | apply Picks.all | apply Picks.nil | (refine Picks.cons (by repeat (first | apply Take.head | apply Take.tail)) ?_) | apply Picks.drop)); done))⟩
    first
    | (rw [decide_eq_true (show x = 0 ∧ y = 0 ∧ z = 0 by omega)]; rfl)
    | (rw [decide_eq_false (show ¬ (x = 0 ∧ y = 0 ∧ z = 0) by omega)]; rfl)
set_option maxHeartbeats 4000000 in
theorem rright10 {n x y z : Int} (hn : 0 ≤ n ∧ n ≤ 18446744073709551615) (hS : St we ρ σ w) : Cl Try.prog 34 [.agg ([Value.int .i64 10, Value.int .u64 n, Value.int .i64 x, Value.int .i64 y, Value.int .i64 z]).toArray] w fun v w' => v = .bool (decide (n = 0 ∧ y = 0 ∧ z = 0)) ∧ St we ρ σ w' := by
  refine Run.calls1 (n := 86) Try.func34 rfl rfl rfl ?_
  repeat' first
    | (refine Run.regionQ_of hS (by rfl) (by kernel_rfl) ?_; clear hS)
    | (apply RQ.callF; rfl; rfl; rfl; (show ∀ w, _ → Cl _ 36 _ _ _; exact fun w hS => rparts_calls hS))
    | (refine RQ.split ?_ ?_ <;> intro hc <;> try (first | (exfalso; omega) | exact absurd rfl hc | exact Bool.noConfusion hc))
    | (refine RQ.nil ?_; (try clear hS); intro w1 hS)
    | refine RQ.still (by exact Still.any) rfl ?_
    | refine RQ.yes rfl rfl ?_
    | refine RQ.no rfl rfl rfl rfl ?_
    | refine RQ.noUndef rfl rfl rfl ?_
    | refine Run.seq ?_
    | refine Run.region ?_
    | (refine RO.split ?_ ?_ <;> intro hc <;> try (first | (exfalso; omega) | exact absurd rfl hc | exact Bool.noConfusion hc))
    | refine RO.nil ?_
    | refine RO.still (by exact Still.any) hS rfl ?_
    | (apply RO.op; apply OP.box hS; rfl; rfl; rfl; clear hS; intro b w1 hS)
    | (apply RO.op; apply OP.alloc hS; rfl; rfl; rfl; clear hS; intro b w1 hS)
    | (apply RO.op; apply OP.store hS; rfl; rfl; rfl; rfl; rfl; (focus ((repeat (first | apply Has.head | apply Take.head | apply Put.head | apply Has.tail | apply Take.tail | apply Put.tail)); done)); rfl; rfl; clear hS; intro w1 hS)
    | (apply RO.op; apply OP.buildSlice hS; rfl; rfl; (exact eqAuto); rfl; rfl; rfl; rfl; rfl; clear hS; intro b w1 hS)
    | (apply RO.op; apply OP.makeMap hS; rfl; clear hS; intro b w1 hS)
    | refine RO.yes rfl rfl ?_
    | refine RO.no rfl rfl rfl rfl ?_
    | refine RO.noUndef rfl rfl rfl ?_
    | refine RO.noNone rfl rfl rfl ?_
    | refine Run.cond_true rfl ?_
    | refine Run.cond_false rfl ?_
    | refine Run.skip ?_
    | refine Run.block ?_
    | refine Run.inBlock ?_
    | refine Run.exit rfl ?_
  all_goals
    refine Run.ret Try.func34 rfl (.tmp rfl .nil) ?_
    refine ⟨?_, hS.picks (by focus ((repeat (first | apply Picks.all | apply Picks.nil | (refine Picks.cons (by repeat (first | apply Take.head | apply Take.tail)) ?_) | apply Picks.drop)); done))⟩
    first
    | (rw [decide_eq_true (show n = 0 ∧ y = 0 ∧ z = 0 by omega)]; rfl)
    | (rw [decide_eq_false (show ¬ (n = 0 ∧ y = 0 ∧ z = 0) by omega)]; rfl)
set_option maxHeartbeats 4000000 in
theorem rright11 {n x y z : Int} (hn : 0 ≤ n ∧ n ≤ 18446744073709551615) (hS : St we ρ σ w) : Cl Try.prog 34 [.agg ([Value.int .i64 11, Value.int .u64 n, Value.int .i64 x, Value.int .i64 y, Value.int .i64 z]).toArray] w fun v w' => v = .bool (decide (n = 0 ∧ y = 0 ∧ z = 0)) ∧ St we ρ σ w' := by
  refine Run.calls1 (n := 86) Try.func34 rfl rfl rfl ?_
  repeat' first
    | (refine Run.regionQ_of hS (by rfl) (by kernel_rfl) ?_; clear hS)
    | (apply RQ.callF; rfl; rfl; rfl; (show ∀ w, _ → Cl _ 36 _ _ _; exact fun w hS => rparts_calls hS))
    | (refine RQ.split ?_ ?_ <;> intro hc <;> try (first | (exfalso; omega) | exact absurd rfl hc | exact Bool.noConfusion hc))
    | (refine RQ.nil ?_; (try clear hS); intro w1 hS)
    | refine RQ.still (by exact Still.any) rfl ?_
    | refine RQ.yes rfl rfl ?_
    | refine RQ.no rfl rfl rfl rfl ?_
    | refine RQ.noUndef rfl rfl rfl ?_
    | refine Run.seq ?_
    | refine Run.region ?_
    | (refine RO.split ?_ ?_ <;> intro hc <;> try (first | (exfalso; omega) | exact absurd rfl hc | exact Bool.noConfusion hc))
    | refine RO.nil ?_
    | refine RO.still (by exact Still.any) hS rfl ?_
    | (apply RO.op; apply OP.box hS; rfl; rfl; rfl; clear hS; intro b w1 hS)
    | (apply RO.op; apply OP.alloc hS; rfl; rfl; rfl; clear hS; intro b w1 hS)
    | (apply RO.op; apply OP.store hS; rfl; rfl; rfl; rfl; rfl; (focus ((repeat (first | apply Has.head | apply Take.head | apply Put.head | apply Has.tail | apply Take.tail | apply Put.tail)); done)); rfl; rfl; clear hS; intro w1 hS)
    | (apply RO.op; apply OP.buildSlice hS; rfl; rfl; (exact eqAuto); rfl; rfl; rfl; rfl; rfl; clear hS; intro b w1 hS)
    | (apply RO.op; apply OP.makeMap hS; rfl; clear hS; intro b w1 hS)
    | refine RO.yes rfl rfl ?_
    | refine RO.no rfl rfl rfl rfl ?_
    | refine RO.noUndef rfl rfl rfl ?_
    | refine RO.noNone rfl rfl rfl ?_
    | refine Run.cond_true rfl ?_
    | refine Run.cond_false rfl ?_
    | refine Run.skip ?_
    | refine Run.block ?_
    | refine Run.inBlock ?_
    | refine Run.exit rfl ?_
  all_goals
    refine Run.ret Try.func34 rfl (.tmp rfl .nil) ?_
    refine ⟨?_, hS.picks (by focus ((repeat (first | apply Picks.all | apply Picks.nil | (refine Picks.cons (by repeat (first | apply Take.head | apply Take.tail)) ?_) | apply Picks.drop)); done))⟩
    first
    | (rw [decide_eq_true (show n = 0 ∧ y = 0 ∧ z = 0 by omega)]; rfl)
    | (rw [decide_eq_false (show ¬ (n = 0 ∧ y = 0 ∧ z = 0) by omega)]; rfl)
set_option maxHeartbeats 4000000 in
theorem rright12 {n x y z : Int} (hn : 0 ≤ n ∧ n ≤ 18446744073709551615) (hS : St we ρ σ w) : Cl Try.prog 34 [.agg ([Value.int .i64 12, Value.int .u64 n, Value.int .i64 x, Value.int .i64 y, Value.int .i64 z]).toArray] w fun v w' => v = .bool (decide (n = 0 ∧ z = 0)) ∧ St we ρ σ w' := by
  refine Run.calls1 (n := 86) Try.func34 rfl rfl rfl ?_
  repeat' first
    | (refine Run.regionQ_of hS (by rfl) (by kernel_rfl) ?_; clear hS)
    | (apply RQ.callF; rfl; rfl; rfl; (show ∀ w, _ → Cl _ 36 _ _ _; exact fun w hS => rparts_calls hS))
    | (refine RQ.split ?_ ?_ <;> intro hc <;> try (first | (exfalso; omega) | exact absurd rfl hc | exact Bool.noConfusion hc))
    | (refine RQ.nil ?_; (try clear hS); intro w1 hS)
    | refine RQ.still (by exact Still.any) rfl ?_
    | refine RQ.yes rfl rfl ?_
    | refine RQ.no rfl rfl rfl rfl ?_
    | refine RQ.noUndef rfl rfl rfl ?_
    | refine Run.seq ?_
    | refine Run.region ?_
    | (refine RO.split ?_ ?_ <;> intro hc <;> try (first | (exfalso; omega) | exact absurd rfl hc | exact Bool.noConfusion hc))
    | refine RO.nil ?_
    | refine RO.still (by exact Still.any) hS rfl ?_
    | (apply RO.op; apply OP.box hS; rfl; rfl; rfl; clear hS; intro b w1 hS)
    | (apply RO.op; apply OP.alloc hS; rfl; rfl; rfl; clear hS; intro b w1 hS)
    | (apply RO.op; apply OP.store hS; rfl; rfl; rfl; rfl; rfl; (focus ((repeat (first | apply Has.head | apply Take.head | apply Put.head | apply Has.tail | apply Take.tail | apply Put.tail)); done)); rfl; rfl; clear hS; intro w1 hS)
    | (apply RO.op; apply OP.buildSlice hS; rfl; rfl; (exact eqAuto); rfl; rfl; rfl; rfl; rfl; clear hS; intro b w1 hS)
    | (apply RO.op; apply OP.makeMap hS; rfl; clear hS; intro b w1 hS)
    | refine RO.yes rfl rfl ?_
    | refine RO.no rfl rfl rfl rfl ?_
    | refine RO.noUndef rfl rfl rfl ?_
    | refine RO.noNone rfl rfl rfl ?_
    | refine Run.cond_true rfl ?_
    | refine Run.cond_false rfl ?_
    | refine Run.skip ?_
    | refine Run.block ?_
    | refine Run.inBlock ?_
    | refine Run.exit rfl ?_
  all_goals
    refine Run.ret Try.func34 rfl (.tmp rfl .nil) ?_
    refine ⟨?_, hS.picks (by focus ((repeat (first | apply Picks.all | apply Picks.nil | (refine Picks.cons (by repeat (first | apply Take.head | apply Take.tail)) ?_) | apply Picks.drop)); done))⟩
    first
    | (rw [decide_eq_true (show n = 0 ∧ z = 0 by omega)]; rfl)
    | (rw [decide_eq_false (show ¬ (n = 0 ∧ z = 0) by omega)]; rfl)
set_option maxHeartbeats 4000000 in
theorem rright13 {n x y z : Int} (hn : 0 ≤ n ∧ n ≤ 18446744073709551615) (hS : St we ρ σ w) : Cl Try.prog 34 [.agg ([Value.int .i64 13, Value.int .u64 n, Value.int .i64 x, Value.int .i64 y, Value.int .i64 z]).toArray] w fun v w' => v = .bool (decide (n = 0 ∧ x = 0 ∧ y = 0 ∧ z = 0)) ∧ St we ρ σ w' := by
  refine Run.calls1 (n := 86) Try.func34 rfl rfl rfl ?_
  repeat' first
    | (refine Run.regionQ_of hS (by rfl) (by kernel_rfl) ?_; clear hS)
    | (apply RQ.callF; rfl; rfl; rfl; (show ∀ w, _ → Cl _ 36 _ _ _; exact fun w hS => rparts_calls hS))
    | (refine RQ.split ?_ ?_ <;> intro hc <;> try (first | (exfalso; omega) | exact absurd rfl hc | exact Bool.noConfusion hc))
    | (refine RQ.nil ?_; (try clear hS); intro w1 hS)
    | refine RQ.still (by exact Still.any) rfl ?_
    | refine RQ.yes rfl rfl ?_
    | refine RQ.no rfl rfl rfl rfl ?_
    | refine RQ.noUndef rfl rfl rfl ?_
    | refine Run.seq ?_
    | refine Run.region ?_
    | (refine RO.split ?_ ?_ <;> intro hc <;> try (first | (exfalso; omega) | exact absurd rfl hc | exact Bool.noConfusion hc))
    | refine RO.nil ?_
    | refine RO.still (by exact Still.any) hS rfl ?_
    | (apply RO.op; apply OP.box hS; rfl; rfl; rfl; clear hS; intro b w1 hS)
    | (apply RO.op; apply OP.alloc hS; rfl; rfl; rfl; clear hS; intro b w1 hS)
    | (apply RO.op; apply OP.store hS; rfl; rfl; rfl; rfl; rfl; (focus ((repeat (first | apply Has.head | apply Take.head | apply Put.head | apply Has.tail | apply Take.tail | apply Put.tail)); done)); rfl; rfl; clear hS; intro w1 hS)
    | (apply RO.op; apply OP.buildSlice hS; rfl; rfl; (exact eqAuto); rfl; rfl; rfl; rfl; rfl; clear hS; intro b w1 hS)
    | (apply RO.op; apply OP.makeMap hS; rfl; clear hS; intro b w1 hS)
    | refine RO.yes rfl rfl ?_
    | refine RO.no rfl rfl rfl rfl ?_
    | refine RO.noUndef rfl rfl rfl ?_
    | refine RO.noNone rfl rfl rfl ?_
    | refine Run.cond_true rfl ?_
    | refine Run.cond_false rfl ?_
    | refine Run.skip ?_
    | refine Run.block ?_
    | refine Run.inBlock ?_
    | refine Run.exit rfl ?_
  all_goals
    refine Run.ret Try.func34 rfl (.tmp rfl .nil) ?_
    refine ⟨?_, hS.picks (by focus ((repeat (first | apply Picks.all | apply Picks.nil | (refine Picks.cons (by repeat (first | apply Take.head | apply Take.tail)) ?_) | apply Picks.drop)); done))⟩
    first
    | (rw [decide_eq_true (show n = 0 ∧ x = 0 ∧ y = 0 ∧ z = 0 by omega)]; rfl)
    | (rw [decide_eq_false (show ¬ (n = 0 ∧ x = 0 ∧ y = 0 ∧ z = 0) by omega)]; rfl)
theorem rright_out {s : Stp} (hin : ¬ (0 ≤ s.op ∧ s.op ≤ 13 ∧ s.op ≠ 4)) (hS : St we ρ σ w) : Cl Try.prog 34 [.agg (stpL s).toArray] w fun v w' => v = .bool false ∧ St we ρ σ w' := by
  obtain ⟨op, n, x, y, z⟩ := s
  simp only at hin
  show Cl _ _ [.agg [Value.int .i64 op, Value.int .u64 n, Value.int .i64 x, Value.int .i64 y, Value.int .i64 z].toArray] _ _
  have h3 : op < 0 ∨ (0 ≤ op ∧ 13 < op) ∨ op = 4 := by omega
  rcases h3 with h3 | h3 | h3
  all_goals
    refine Run.calls1 (n := 86) Try.func34 rfl rfl rfl ?_
    repeat' first
      | refine Run.seq ?_
      | refine Run.region ?_
      | (refine RO.split ?_ ?_ <;> intro hc <;> try (first | (exfalso; omega) | exact absurd rfl hc | exact Bool.noConfusion hc))
      | refine RO.nil ?_
      | refine RO.still (by exact Still.any) hS rfl ?_
      | (apply RO.op; apply OP.box hS; rfl; rfl; rfl; clear hS; intro b w1 hS)
      | (apply RO.op; apply OP.alloc hS; rfl; rfl; rfl; clear hS; intro b w1 hS)
      | (apply RO.op; apply OP.store hS; rfl; rfl; rfl; rfl; rfl; (focus ((repeat (first | apply Has.head | apply Take.head | apply Put.head | apply Has.tail | apply Take.tail | apply Put.tail)); done)); rfl; rfl; clear hS; intro w1 hS)
      | (apply RO.op; apply OP.buildSlice hS; rfl; rfl; (exact eqAuto); rfl; rfl; rfl; rfl; rfl; clear hS; intro b w1 hS)
      | (apply RO.op; apply OP.makeMap hS; rfl; clear hS; intro b w1 hS)
      | refine RO.yes rfl rfl ?_
      | refine RO.no rfl rfl rfl rfl ?_
      | refine RO.noUndef rfl rfl rfl ?_
      | refine RO.noNone rfl rfl rfl ?_
      | refine Run.cond_true rfl ?_
      | refine Run.cond_false rfl ?_
      | refine Run.skip ?_
      | refine Run.block ?_
      | refine Run.inBlock ?_
      | refine Run.exit rfl ?_
    refine Run.ret Try.func34 rfl (.tmp rfl .nil) ?_
    exact ⟨rfl, hS.picks (by focus ((repeat (first | apply Picks.all | apply Picks.nil | (refine Picks.cons (by repeat (first | apply Take.head | apply Take.tail)) ?_) | apply Picks.drop)); done))⟩
theorem rright_calls {s : Stp} (hn : 0 ≤ s.n ∧ s.n ≤ 18446744073709551615) (hS : St we ρ σ w) : Cl Try.prog 34 [.agg (stpL s).toArray] w fun v w' => v = .bool (decide (RightP s)) ∧ St we ρ σ w' := by
  by_cases hin : 0 ≤ s.op ∧ s.op ≤ 13 ∧ s.op ≠ 4
  rotate_left
  · rw [decide_eq_false (fun h => hin h.1)]
    exact rright_out hin hS
  obtain ⟨op, n, a, b, c⟩ := s
  simp only at hn hin
  have hcs : op = 0 ∨ op = 1 ∨ op = 2 ∨ op = 3 ∨ op = 5 ∨ op = 6 ∨ op = 7 ∨ op = 8 ∨ op = 9 ∨ op = 10 ∨ op = 11 ∨ op = 12 ∨ op = 13 := by omega
  rcases hcs with rfl | rfl | rfl | rfl | rfl | rfl | rfl | rfl | rfl | rfl | rfl | rfl | rfl
  · rw [show decide (RightP ⟨0, n, a, b, c⟩) = decide (n = 0 ∧ b = 0 ∧ c = 0) from decide_eq_decide.2 (by simp [RightP])]
    exact rright0 hn hS
  · rw [show decide (RightP ⟨1, n, a, b, c⟩) = decide (n < 1048576 ∧ a = 0 ∧ b = 0 ∧ c = 0) from decide_eq_decide.2 (by simp [RightP])]
    exact rright1 hn hS
  · rw [show decide (RightP ⟨2, n, a, b, c⟩) = decide (n = 0 ∧ b = 0 ∧ c = 0) from decide_eq_decide.2 (by simp [RightP])]
    exact rright2 hn hS
  · rw [show decide (RightP ⟨3, n, a, b, c⟩) = decide (n = 0 ∧ c = 0) from decide_eq_decide.2 (by simp [RightP])]
    exact rright3 hn hS
  · rw [show decide (RightP ⟨5, n, a, b, c⟩) = decide (n = 0 ∧ c = 0) from decide_eq_decide.2 (by simp [RightP])]
    exact rright5 hn hS
  · rw [show decide (RightP ⟨6, n, a, b, c⟩) = decide (c = 0) from decide_eq_decide.2 (by simp [RightP])]
    exact rright6 hn hS
  · rw [show decide (RightP ⟨7, n, a, b, c⟩) = decide (True) from decide_eq_decide.2 (by simp [RightP])]
    exact rright7 hn hS
  · rw [show decide (RightP ⟨8, n, a, b, c⟩) = decide (n = 0 ∧ c = 0) from decide_eq_decide.2 (by simp [RightP])]
    exact rright8 hn hS
  · rw [show decide (RightP ⟨9, n, a, b, c⟩) = decide (a = 0 ∧ b = 0 ∧ c = 0) from decide_eq_decide.2 (by simp [RightP])]
    exact rright9 hn hS
  · rw [show decide (RightP ⟨10, n, a, b, c⟩) = decide (n = 0 ∧ b = 0 ∧ c = 0) from decide_eq_decide.2 (by simp [RightP])]
    exact rright10 hn hS
  · rw [show decide (RightP ⟨11, n, a, b, c⟩) = decide (n = 0 ∧ b = 0 ∧ c = 0) from decide_eq_decide.2 (by simp [RightP])]
    exact rright11 hn hS
  · rw [show decide (RightP ⟨12, n, a, b, c⟩) = decide (n = 0 ∧ c = 0) from decide_eq_decide.2 (by simp [RightP])]
    exact rright12 hn hS
  · rw [show decide (RightP ⟨13, n, a, b, c⟩) = decide (n = 0 ∧ a = 0 ∧ b = 0 ∧ c = 0) from decide_eq_decide.2 (by simp [RightP])]
    exact rright13 hn hS
end
end Go.Proofs.Ythejfodjielahaa
