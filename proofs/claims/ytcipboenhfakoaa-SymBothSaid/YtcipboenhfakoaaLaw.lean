/-
  The laws' helpers for the layer of terms: awake, Built, Same.
-/
import Derived.Test.YtcipboenhfakoaaRef3
namespace Go.Proofs.Ytcipboenhfakoaa
set_option linter.unusedSimpArgs false
set_option linter.unusedVariables false
open Go Go.RowKit

section
variable {we w : World} {ρ : List (Nat × Obj)} {σ F : List HP} {p lim : Nat} {L : List Nd} {a : Value}

theorem mk_is {n : Nd} {L' : List Nd} {x e : Int} (h : mk lim L n = (L', x, e)) (hS : St we ρ (Arena p lim L :: F) w) :
    Cl Try.prog 9 [.pointer (some ⟨p, 0, none⟩), ndV n] w fun v w' => v = .tuple #[.int .i64 x, .int .i64 e] ∧ St we ρ (Arena p lim L' :: F) w' := by
  have := mk_calls (n := n) hS
  rwa [h] at this

end
end Go.Proofs.Ytcipboenhfakoaa
