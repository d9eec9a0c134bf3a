/-
  A new arena, and an arena's copy.
-/
import Derived.Test.YtcigkkedffggiaaMk
namespace Go.Proofs.Ytcigkkedffggiaa
set_option maxRecDepth 8000
set_option linter.unusedSimpArgs false
set_option linter.unusedVariables false
open Go Go.RowKit

section
variable {we w : World} {ρ : List (Nat × Obj)} {σ F : List HP} {p lim : Nat} {L : List Nd}

theorem room_eq (limit : Int) : (if 65536 < (if limit < 1 then 1 else limit) then 65536 else (if limit < 1 then 1 else limit)) = ((room limit : Nat) : Int) := by
  unfold room; split <;> split <;> omega
theorem room_good (limit : Int) : Good (room limit) [Nd.z] := good_new (by unfold room; omega) (by unfold room; omega)

theorem new_calls {limit : Int} (hS : St we ρ σ w) :
    Cl Try.prog 9 [.int .i64 limit] w fun v w' => ∃ p, v = .pointer (some ⟨p, 0, none⟩) ∧ St we ρ (Arena p (room limit) [Nd.z] :: σ) w' := by
  refine Run.calls1 (n := 13) Try.func9 rfl rfl rfl ?_
  repeat' first
    | (refine RO.still (by apply Still.maxI; rfl; rfl; rfl) hS rfl ?_)
    | (refine RO.still (by apply Still.minI; rfl; rfl; exact room_eq limit) hS rfl ?_)
    | (apply RO.op; apply OP.insert hS; rfl; rfl; rfl; rfl; (focus ((repeat (first | apply Has.head | apply Take.head | apply Put.head | apply Has.tail | apply Take.tail | apply Put.tail)); done)); exact node_keys (n := Nd.z) (es := []) (by simp); (exact (by simp)); rfl; clear hS; intro w1 hS)
    | refine Run.seq ?_
    | refine Run.region ?_
    | (refine RO.split ?_ ?_ <;> intro hc <;> try (first | (exfalso; omega) | exact absurd rfl hc | exact Bool.noConfusion hc))
    | refine RO.nil ?_
    | refine RO.still (by first | (apply Still.move; rfl) | (apply Still.assign; rfl) | (apply Still.load; rfl; rfl; (first | (focus (apply Rd.own; (repeat (first | apply Has.head | apply Has.tail)); done)) | (focus (apply Rd.ro; (repeat (first | apply List.Mem.head | apply List.Mem.tail)); done)) | (focus ((repeat (first | assumption | apply Rd.tail)); done))); (first | rfl | exact flat_get0 (by assumption) | exact flat_get1 (by assumption) | exact flat_get2 (by assumption) | exact flat_get3 (by assumption) | exact flat_get4 (by assumption))) | (apply Still.fieldAddr; rfl; (first | exact Eq.refl (some 0) | exact Eq.refl (some 1) | exact Eq.refl (some 2) | exact Eq.refl (some 3) | exact Eq.refl (some 4) | exact Eq.refl (some 5) | exact Eq.refl (some 6) | exact Eq.refl (some 7) | exact Eq.refl (some 8) | exact Eq.refl (some 9) | exact Eq.refl (some 10) | exact Eq.refl (some 11) | exact offAdd_zero rfl | exact offAdd_of (k := 1) rfl | exact offAdd_of (k := 2) rfl | exact offAdd_of (k := 3) rfl | exact offAdd_of (k := 4) rfl | exact offAdd_of (k := 5) rfl | exact offAdd_of (k := 6) rfl | exact offAdd_of (k := 7) rfl | exact offAdd_of (k := 8) rfl | exact offAdd_of (k := 9) rfl | exact offAdd_of (k := 10) rfl | exact offAdd_of (k := 11) rfl | rfl)) | (apply Still.nilCheck; rfl) | (apply Still.extract; rfl; rfl) | (apply Still.loadAgg; rfl; rfl; (first | exact Eq.refl (some 0) | exact Eq.refl (some 1) | exact Eq.refl (some 2) | exact Eq.refl (some 3) | exact Eq.refl (some 4) | exact Eq.refl (some 5) | exact Eq.refl (some 6) | exact Eq.refl (some 7) | exact Eq.refl (some 8) | exact Eq.refl (some 9) | exact Eq.refl (some 10) | exact Eq.refl (some 11) | exact offAdd_zero rfl | exact offAdd_of (k := 1) rfl | exact offAdd_of (k := 2) rfl | exact offAdd_of (k := 3) rfl | exact offAdd_of (k := 4) rfl | exact offAdd_of (k := 5) rfl | exact offAdd_of (k := 6) rfl | exact offAdd_of (k := 7) rfl | exact offAdd_of (k := 8) rfl | exact offAdd_of (k := 9) rfl | exact offAdd_of (k := 10) rfl | exact offAdd_of (k := 11) rfl | rfl); (first | (focus (apply Rd.own; (repeat (first | apply Has.head | apply Has.tail)); done)) | (focus (apply Rd.ro; (repeat (first | apply List.Mem.head | apply List.Mem.tail)); done)) | (focus ((repeat (first | assumption | apply Rd.tail)); done))); (first | exact flat_take (by assumption) | rfl); rfl) | (apply Still.pickT; rfl; rfl) | (apply Still.pickF; rfl; rfl) | (apply Still.lss; rfl; rfl) | (apply Still.leq; rfl; rfl) | (apply Still.gtr; rfl; rfl) | (apply Still.geq; rfl; rfl) | (apply Still.eql; rfl; rfl) | (apply Still.neq; rfl; rfl) | (apply Still.not; rfl; rfl) | (apply Still.add; rfl; rfl; (first | exact wrap_i64 (by omega) (by omega) | exact wrap_u64 (by omega) (by omega) | rfl)) | (apply Still.sub; rfl; rfl; (first | exact wrap_i64 (by omega) (by omega) | exact wrap_u64 (by omega) (by omega) | rfl)) | (apply Still.mul; rfl; rfl; (first | exact wrap_i64 (by omega) (by omega) | exact wrap_u64 (by omega) (by omega) | rfl)) | (apply Still.makeFunc; rfl; rfl) | (apply Still.lenSlice; rfl; rfl) | (apply Still.lenString; rfl; rfl) | (apply Still.build; rfl; rfl) | (apply Still.indexAddr; rfl; rfl; rfl; (first | exact Eq.refl (some 0) | exact Eq.refl (some 1) | exact Eq.refl (some 2) | exact Eq.refl (some 3) | exact Eq.refl (some 4) | exact Eq.refl (some 5) | exact Eq.refl (some 6) | exact Eq.refl (some 7) | exact Eq.refl (some 8) | exact Eq.refl (some 9) | exact Eq.refl (some 10) | exact Eq.refl (some 11) | exact offAdd_zero rfl | exact offAdd_of (k := 1) rfl | exact offAdd_of (k := 2) rfl | exact offAdd_of (k := 3) rfl | exact offAdd_of (k := 4) rfl | exact offAdd_of (k := 5) rfl | exact offAdd_of (k := 6) rfl | exact offAdd_of (k := 7) rfl | exact offAdd_of (k := 8) rfl | exact offAdd_of (k := 9) rfl | exact offAdd_of (k := 10) rfl | exact offAdd_of (k := 11) rfl | rfl); omega; omega; (first | (simp only [Int.toNat_natCast, Nat.mul_one, Nat.zero_add, Int.reduceToNat, Nat.reduceMul, Nat.reduceAdd, Nat.zero_mul]; exact rfl) | rfl)) | (apply Still.eqlB; rfl; rfl; rfl) | (apply Still.neqB; rfl; rfl; rfl) | (apply Still.eqlS; rfl; rfl) | (apply Still.neqS; rfl; rfl) | (apply Still.nilCheckF; rfl) | (apply Still.index; rfl; rfl; rfl; rfl; (first | exact Eq.refl (some 0) | exact Eq.refl (some 1) | exact Eq.refl (some 2) | exact Eq.refl (some 3) | exact Eq.refl (some 4) | exact Eq.refl (some 5) | exact Eq.refl (some 6) | exact Eq.refl (some 7) | exact Eq.refl (some 8) | exact Eq.refl (some 9) | exact Eq.refl (some 10) | exact Eq.refl (some 11) | exact offAdd_zero rfl | exact offAdd_of (k := 1) rfl | exact offAdd_of (k := 2) rfl | exact offAdd_of (k := 3) rfl | exact offAdd_of (k := 4) rfl | exact offAdd_of (k := 5) rfl | exact offAdd_of (k := 6) rfl | exact offAdd_of (k := 7) rfl | exact offAdd_of (k := 8) rfl | exact offAdd_of (k := 9) rfl | exact offAdd_of (k := 10) rfl | exact offAdd_of (k := 11) rfl | rfl); omega; omega; (first | (simp only [Int.toNat_natCast, Nat.mul_one, Nat.zero_add, Int.reduceToNat, Nat.reduceMul, Nat.reduceAdd, Nat.zero_mul]; exact rfl) | rfl); rfl) | (apply Still.sliceNil; rfl; rfl; rfl; rfl) | (apply Still.sliceNotNil; rfl; rfl; rfl; rfl) | (apply Still.mapNil; rfl; rfl; rfl; rfl) | (apply Still.ptrNil; rfl; rfl; rfl; rfl) | (apply Still.makeInterface; rfl; rfl) | (apply Still.assertMap; rfl; rfl) | (apply Still.maxI; rfl; rfl; rfl) | (apply Still.minI; rfl; rfl; rfl)) hS rfl ?_
    | (apply RO.op; apply OP.box hS; rfl; rfl; rfl; clear hS; intro b w1 hS)
    | (apply RO.op; apply OP.alloc hS; rfl; rfl; rfl; clear hS; intro b w1 hS)
    | (apply RO.op; apply OP.store hS; rfl; rfl; rfl; rfl; rfl; (focus ((repeat (first | apply Has.head | apply Take.head | apply Put.head | apply Has.tail | apply Take.tail | apply Put.tail)); done)); rfl; rfl; clear hS; intro w1 hS)
    | (apply RO.op; apply OP.buildSlice hS; rfl; rfl; (first | exact Eq.refl (some 0) | exact Eq.refl (some 1) | exact Eq.refl (some 2) | exact Eq.refl (some 3) | exact Eq.refl (some 4) | exact Eq.refl (some 5) | exact Eq.refl (some 6) | exact Eq.refl (some 7) | exact Eq.refl (some 8) | exact Eq.refl (some 9) | exact Eq.refl (some 10) | exact Eq.refl (some 11) | exact offAdd_zero rfl | exact offAdd_of (k := 1) rfl | exact offAdd_of (k := 2) rfl | exact offAdd_of (k := 3) rfl | exact offAdd_of (k := 4) rfl | exact offAdd_of (k := 5) rfl | exact offAdd_of (k := 6) rfl | exact offAdd_of (k := 7) rfl | exact offAdd_of (k := 8) rfl | exact offAdd_of (k := 9) rfl | exact offAdd_of (k := 10) rfl | exact offAdd_of (k := 11) rfl | rfl); rfl; rfl; rfl; rfl; rfl; clear hS; intro b w1 hS)
    | (apply RO.op; apply OP.makeMap hS; rfl; clear hS; intro b w1 hS)
    | refine RO.yes rfl rfl ?_
    | refine RO.no rfl rfl rfl rfl ?_
    | refine RO.noUndef rfl rfl rfl ?_
    | refine RO.noNone rfl rfl rfl ?_
    | refine Run.cond_true rfl ?_
    | refine Run.cond_false rfl ?_
    | refine Run.skip ?_
    | refine Run.block ?_
    | refine Run.inBlock ?_
    | refine Run.exit rfl ?_
  refine Run.ret Try.func9 rfl (.tmp rfl .nil) ?_
  rename_i r _ m _ _
  refine ⟨b, rfl, arena_shut (r := r) (m := m) (cap := 1) (spare := []) (room_good limit) (by simp) (by unfold maxLen; omega) (by simp) ?_⟩
  exact hS.picks (by focus ((repeat (first | apply Picks.all | apply Picks.nil | (refine Picks.cons (by repeat (first | apply Take.head | apply Take.tail)) ?_) | apply Picks.drop)); done))



theorem flat_one {L : List Nd} : ∀ u ∈ flat L, one u = true := by
  intro u hu
  obtain ⟨n, _, h⟩ := List.mem_flatMap.1 hu
  exact ndL_one u h

end
end Go.Proofs.Ytcigkkedffggiaa
