/-
  undertonelaw04.RecipeRuns is true, whatever the input, and what it reads is as it was.
-/
import Derived.Test.YthejfodjielahaaRows
import Derived.Test.YthejfodjielahaaLawRecipeRuns
import Derived.Test.YthejfodjielahaaOpeners
import Derived.ChangeOld
import Derived.Below
import Derived.WalkKit
import Derived.ProofKit
import Derived.OpenShut
import Derived.ShutString
import Derived.Carry
namespace Go.Proofs.Ythejfodjielahaa.recipeRuns
open Go.ChangeShapes Go.WideShapes Go.ChangeAt Go.RowKit
open Go.ChangeMaps (open_string shut_string)
set_option linter.unusedVariables false

theorem own : ownKnob Try.prog.godebug = none := by kernel_rfl

theorem laidOut : laidOutB Try.prog = true := by kernel_rfl

set_option maxRecDepth 100000 in
theorem lifted (os : Os) (started : os.Started) (H : Type) (enc : TypeId × Value → H) :
    ReturnsInHanded {} Try.checked os 7 .any (Rows.recipeRunsSpec.pre6 enc Try.prog Try.f7 Rows.recipeRunsRow.domain false) (Rows.recipeRunsSpec.post enc Try.prog Try.f7 false true false false) := by
  refine returnsInHanded_of_change (C := Try.checked) own started (by kernel_rfl) Try.func7
    (ChangeSpec.witness6 (enc := enc) (C := Try.checked) false ⟨#[], #[.int .i64 0, .slice none 0 0, .slice none 0 0, .slice none 0 0], []⟩ 8 (by kernel_rfl) (by kernel_rfl) (by kernel_rfl) (by kernel_rfl)) ?_
  intro W base args ds gs before hval0 hW hcnd _
  have hval : ∀ (j : Nat) t v, Try.f7.params[j]? = some t → args[j]? = some v → Value.okWide Try.prog W .any base t v := hval0
  have hW' := hW
  obtain ⟨p, q, hA0, hV, rfl, hfz, hnd⟩ := hW
  have hA : DataW.TrodAll enc Try.prog W 0 (fun _ => true) true Try.f7.params.toList args.toList ds p := hA0
  rw [Try.params7] at hA hval
  obtain ⟨v0, vs0, d0, ds0, p0, q0, hargs, rfl, rfl, h0, r0⟩ := trodAll_cons hA
  obtain ⟨v1, vs1, d1, ds1, p1, q1, rfl, rfl, rfl, h1, r1⟩ := trodAll_cons r0
  obtain ⟨v2, vs2, d2, ds2, p2, q2, rfl, rfl, rfl, h2, r2⟩ := trodAll_cons r1
  obtain ⟨v3, vs3, d3, ds3, p3, q3, rfl, rfl, rfl, h3, r3⟩ := trodAll_cons r2
  obtain ⟨rfl, rfl, rfl⟩ := trodAll_nil r3
  obtain rfl : args = #[v0, v1, v2, v3] := by cases args; simp_all
  obtain ⟨rfl, rfl⟩ := trodVars_none hV
  obtain ⟨a0, rfl, rfl, rfl, wf0⟩ := open_int Try.underlying3 (hval 0 3 v0 rfl rfl) h0
  have h1k := h1
  have hlt1 : ∀ x ∈ p1, x.block < W.heap.size := fun x hx => by obtain ⟨n, hn⟩ := h1k; exact DataW.trod_lt n _ _ _ hn x hx
  obtain ⟨ρ1, l1, hρ1, hl1, hq1⟩ := open_nodes (hval 1 22 v1 rfl rfl) h1
  have h2k := h2
  have hlt2 : ∀ x ∈ p2, x.block < W.heap.size := fun x hx => by obtain ⟨n, hn⟩ := h2k; exact DataW.trod_lt n _ _ _ hn x hx
  obtain ⟨ρ2, l2, hρ2, hl2, hq2⟩ := open_ints (hval 2 23 v2 rfl rfl) h2
  have h3k := h3
  have hlt3 : ∀ x ∈ p3, x.block < W.heap.size := fun x hx => by obtain ⟨n, hn⟩ := h3k; exact DataW.trod_lt n _ _ _ hn x hx
  obtain ⟨ρ3, l3, hρ3, hl3, hq3⟩ := open_steps (hval 3 24 v3 rfl rfl) h3
  clear hA0 hval0 hval
  have hro : ∀ x ∈ ρ1 ++ ρ2 ++ ρ3, W.heap[x.1]? = some x.2 := (by intro x hx; (try simp only [List.mem_append] at hx); rcases hx with (hx | hx) | hx <;> first | exact hρ1 x hx | exact hρ2 x hx | exact hρ3 x hx)
  refine ((recipeRuns_law wf0 (hl1.mono (by intro x hx; simp [hx])) hq1 (hl2.mono (by intro x hx; simp [hx])) hq2 (hl3.mono (by intro x hx; simp [hx])) hq3 (St.start W (ρ1 ++ ρ2 ++ ρ3) hro)).go).mono fun e W' h => ?_
  cases e with
  | panicked _ => exact absurd h (by simp [Ret])
  | outgrown => exact absurd h (by simp [Ret])
  | returned v =>
  have bel := h.2.below
  obtain ⟨rfl, -⟩ := h
  exact ⟨_, rfl, _, _, _, [], _, [], hW', trodAll_mk1 (shut_bool Try.underlying4 _), (trodAll_cons_mk (shut_int Try.underlying3 wf0) (trodAll_cons_mk (Below.trod laidOut (by kernel_rfl) (of_decide_eq_true (by kernel_rfl)) h1k bel hlt1) (trodAll_cons_mk (Below.trod laidOut (by kernel_rfl) (of_decide_eq_true (by kernel_rfl)) h2k bel hlt2) (trodAll_cons_mk (Below.trod laidOut (by kernel_rfl) (of_decide_eq_true (by kernel_rfl)) h3k bel hlt3) trodAll_mk0)))), rfl, bel.frame _, fun h => by cases h⟩

theorem over : Rows.recipeRunsRow.holds Try.pinned (OpenSpec.ofChange Rows.recipeRunsSpec) :=
  OpenClaim.holds_of_wide 7 Try.f7 rfl rfl rfl rfl rfl rfl rfl ⟨rfl, rfl, rfl, rfl, rfl⟩ rfl rfl rfl rfl rfl (by kernel_rfl) Try.func7 (by kernel_rfl)
    (of_decide_eq_true (by kernel_rfl)) (by unfold Func.isWrapper; first | (rw [if_pos (by decide +kernel)]; kernel_rfl) | (rw [if_neg (by decide +kernel)]; exact ⟨rfl, rfl⟩))
    (fun os started H enc _ => lifted os started H enc)

theorem proved : Rows.RecipeRunsSaid :=
  over
#print axioms proved
end Go.Proofs.Ythejfodjielahaa.recipeRuns
