/-
  A new arena, and an arena's copy.
-/
import Derived.Test.YthejfodjielahaaMk
namespace Go.Proofs.Ythejfodjielahaa
set_option maxRecDepth 8000
set_option linter.unusedSimpArgs false
set_option linter.unusedVariables false
open Go Go.RowKit

section
variable {we w : World} {ρ : List (Nat × Obj)} {σ F : List HP} {p lim : Nat} {L : List Nd}

theorem room_eq (limit : Int) : (if 65536 < (if limit < 1 then 1 else limit) then 65536 else (if limit < 1 then 1 else limit)) = ((room limit : Nat) : Int) := by
  unfold room; split <;> split <;> omega
theorem room_good (limit : Int) : Good (room limit) [Nd.z] := good_new (by unfold room; omega) (by unfold room; omega)

theorem new_calls {limit : Int} (hS : St we ρ σ w) :
    Cl Try.prog 14 [.int .i64 limit] w fun v w' => ∃ p, v = .pointer (some ⟨p, 0, none⟩) ∧ St we ρ (Arena p (room limit) [Nd.z] :: σ) w' := by
  refine Run.calls1 (n := 13) Try.func14 rfl rfl rfl ?_
  repeat' first
    | (refine RO.still (by apply Still.maxI; rfl; rfl; rfl) hS rfl ?_)
    | (refine RO.still (by apply Still.minI; rfl; rfl; exact room_eq limit) hS rfl ?_)
    | (apply RO.op; apply OP.insert hS; rfl; rfl; rfl; rfl; (focus ((repeat (first | apply Has.head | apply Take.head | apply Put.head | apply Has.tail | apply Take.tail | apply Put.tail)); done)); exact node_keys (n := Nd.z) (es := []) (by simp); (exact (by simp)); rfl; clear hS; intro w1 hS)
    | refine Run.seq ?_
    | refine Run.region ?_
    | (refine RO.split ?_ ?_ <;> intro hc <;> try (first | (exfalso; omega) | exact absurd rfl hc | exact Bool.noConfusion hc))
    | refine RO.nil ?_
    | refine RO.still (by exact Still.any) hS rfl ?_
    | (apply RO.op; apply OP.box hS; rfl; rfl; rfl; clear hS; intro b w1 hS)
    | (apply RO.op; apply OP.alloc hS; rfl; rfl; rfl; clear hS; intro b w1 hS)
    | (apply RO.op; apply OP.store hS; rfl; rfl; rfl; rfl; rfl; (focus ((repeat (first | apply Has.head | apply Take.head | apply Put.head | apply Has.tail | apply Take.tail | apply Put.tail)); done)); rfl; rfl; clear hS; intro w1 hS)
    | (apply RO.op; apply OP.buildSlice hS; rfl; rfl; (exact eqAuto); rfl; rfl; rfl; rfl; rfl; clear hS; intro b w1 hS)
    | (apply RO.op; apply OP.makeMap hS; rfl; clear hS; intro b w1 hS)
    | refine RO.yes rfl rfl ?_
    | refine RO.no rfl rfl rfl rfl ?_
    | refine RO.noUndef rfl rfl rfl ?_
    | refine RO.noNone rfl rfl rfl ?_
    | refine Run.cond_true rfl ?_
    | refine Run.cond_false rfl ?_
    | refine Run.skip ?_
    | refine Run.block ?_
    | refine Run.inBlock ?_
    | refine Run.exit rfl ?_
  refine Run.ret Try.func14 rfl (.tmp rfl .nil) ?_
  rename_i r _ m _ _
  refine ⟨b, rfl, arena_shut (r := r) (m := m) (cap := 1) (spare := []) (room_good limit) (by simp) (by unfold maxLen; omega) (by simp) ?_⟩
  exact hS.picks (by focus ((repeat (first | apply Picks.all | apply Picks.nil | (refine Picks.cons (by repeat (first | apply Take.head | apply Take.tail)) ?_) | apply Picks.drop)); done))



theorem flat_one {L : List Nd} : ∀ u ∈ flat L, one u = true := by
  intro u hu
  obtain ⟨n, _, h⟩ := List.mem_flatMap.1 hu
  exact ndL_one u h

end
end Go.Proofs.Ythejfodjielahaa
