/-
  The laws' helpers for the layer of terms: awake, Built, Same.
-/
import Derived.Test.YthejfodjielahaaRef3
namespace Go.Proofs.Ythejfodjielahaa
set_option maxRecDepth 8000
set_option linter.unusedSimpArgs false
set_option linter.unusedVariables false
open Go Go.RowKit

section
variable {we w : World} {ρ : List (Nat × Obj)} {σ F : List HP} {p lim : Nat} {L : List Nd} {a : Value}

theorem mk_is {n : Nd} {L' : List Nd} {x e : Int} (h : mk lim L n = (L', x, e)) (hS : St we ρ (Arena p lim L :: F) w) :
    Cl Try.prog 20 [.pointer (some ⟨p, 0, none⟩), ndV n] w fun v w' => v = .tuple #[.int .i64 x, .int .i64 e] ∧ St we ρ (Arena p lim L' :: F) w' := by
  have := mk_calls (n := n) hS
  rwa [h] at this
theorem find_is {n : Nd} {r : Option Nat} (h : find L n = r) (hS : St we ρ (Arena p lim L :: F) w) :
    Cl Try.prog 41 [.pointer (some ⟨p, 0, none⟩), ndV n] w fun v w' => v = .tuple #[.int .i64 (r.getD 0), .bool r.isSome] ∧ St we ρ (Arena p lim L :: F) w' := by
  have := find_calls (n := n) hS
  rwa [h] at this
theorem find_yes {n : Nd} {i : Nat} (h : find L n = some i) (hS : St we ρ (Arena p lim L :: F) w) :
    Cl Try.prog 41 [.pointer (some ⟨p, 0, none⟩), ndV n] w fun v w' => v = .tuple #[.int .i64 i, .bool true] ∧ St we ρ (Arena p lim L :: F) w' := find_is h hS
theorem find_no {n : Nd} (h : find L n = none) (hS : St we ρ (Arena p lim L :: F) w) :
    Cl Try.prog 41 [.pointer (some ⟨p, 0, none⟩), ndV n] w fun v w' => v = .tuple #[.int .i64 0, .bool false] ∧ St we ρ (Arena p lim L :: F) w' := find_is h hS
theorem share_is {x y : Int} {L' : List Nd} {s e : Int} (h : share lim L x y = (L', s, e)) (hS : St we ρ (Arena p lim L :: F) w) :
    Cl Try.prog 52 [.pointer (some ⟨p, 0, none⟩), .int .i64 x, .int .i64 y] w fun v w' => v = .tuple #[.int .i64 s, .int .i64 e] ∧ St we ρ (Arena p lim L' :: F) w' := by
  have := share_calls (x := x) (y := y) hS
  rwa [h] at this

end
end Go.Proofs.Ythejfodjielahaa
