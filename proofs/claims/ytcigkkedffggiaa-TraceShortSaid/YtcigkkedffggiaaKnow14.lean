/-
  The laws' helpers for the layer of what is known: few, learned, awake.
-/
import Derived.Test.YtcigkkedffggiaaKnow13
namespace Go.Proofs.Ytcigkkedffggiaa
set_option maxRecDepth 8000
set_option linter.unusedSimpArgs false
set_option linter.unusedVariables false
open Go Go.RowKit

theorem filter_snoc {p : Int → Bool} {l : List Int} {i : Nat} (h : i < l.length) : (l.take (i + 1)).filter p = (l.take i).filter p ++ if p l[i] = true then [l[i]] else [] := by
  rw [List.take_succ_eq_append_getElem h, List.filter_append]
  cases hp : p l[i] <;> simp [hp]

section
variable {we w : World} {ρ : List (Nat × Obj)} {σ F : List HP} {L : List Nd} {K : Int → Bool} {kb p lim : Nat} {heard : List Int}

theorem learn_yes {x : Int} (hh : ∀ x, K x = true → has L x = true) (hl : heard.length ≤ 100000) (hx : has L x = true) (hS : St we ρ (KN kb p heard K :: Arena p lim L :: F) w) :
    Cl Try.prog 28 [.pointer (some ⟨kb, 0, none⟩), .int .i64 x] w fun v w' => v = .int .i64 0 ∧ St we ρ (KN kb p (heard ++ [x]) (cl L (ins K x)) :: Arena p lim L :: F) w' := by
  have := learn_calls (x := x) hh hl hS
  simpa only [hx, if_true] using this
theorem learn_no {x : Int} (hh : ∀ x, K x = true → has L x = true) (hl : heard.length ≤ 100000) (hx : has L x = false) (hS : St we ρ (KN kb p heard K :: Arena p lim L :: F) w) :
    Cl Try.prog 28 [.pointer (some ⟨kb, 0, none⟩), .int .i64 x] w fun v w' => v = .int .i64 1 ∧ St we ρ (KN kb p heard K :: Arena p lim L :: F) w' := by
  have := learn_calls (x := x) hh hl hS
  simpa only [hx, Bool.false_eq_true, if_false] using this
theorem kcan_is {x : Int} {b : Bool} (hh : ∀ x, K x = true → has L x = true) (h : can L K x = b) (hS : St we ρ (KN kb p heard K :: Arena p lim L :: F) w) :
    Cl Try.prog 43 [.pointer (some ⟨kb, 0, none⟩), .int .i64 x] w fun v w' => v = .bool b ∧ St we ρ (KN kb p heard K :: Arena p lim L :: F) w' := by
  have := kcan_calls (x := x) hh hS
  rwa [h] at this
theorem knows_is {x : Int} {b : Bool} (h : K x = b) (hS : St we ρ (KN kb p heard K :: F) w) :
    Cl Try.prog 46 [.pointer (some ⟨kb, 0, none⟩), .int .i64 x] w fun v w' => v = .bool b ∧ St we ρ (KN kb p heard K :: F) w' := by
  have := knows_calls (x := x) hS
  rwa [h] at this
theorem ins_has {x : Int} (hh : ∀ x, K x = true → has L x = true) (hx : has L x = true) : ∀ y, ins K x y = true → has L y = true := fun y hy => by
  rcases ins_iff.1 hy with q | rfl
  · exact hh y q
  · exact hx



end
end Go.Proofs.Ytcigkkedffggiaa
