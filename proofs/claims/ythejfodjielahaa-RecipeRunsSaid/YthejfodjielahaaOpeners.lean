/-
  The arguments of this layer's statements, opened: slices of nodes, numbers, texts, steps; structs.
-/
import Derived.Test.YthejfodjielahaaProg
import Derived.Test.YthejfodjielahaaArgs
import Derived.Test.YthejfodjielahaaArena
import Derived.Test.YthejfodjielahaaRecipeWords
import Derived.OpenShut
import Derived.ShutString
import Derived.SliceStrings
import Derived.ChangeMaps5
namespace Go.Proofs.Ythejfodjielahaa
set_option maxRecDepth 8000
set_option linter.unusedSimpArgs false
set_option linter.unusedVariables false
open Go Go.RowKit Go.ChangeShapes Go.WideShapes Go.Deep

theorem u64_in {n : Int} (h : (Lit.int .u64 n).wf = true) : 0 ≤ n ∧ n ≤ 18446744073709551615 := by
  simp [Lit.wf, IntKind.min, IntKind.max, IntKind.signed, IntKind.bits] at h
  omega
theorem i64_in {n : Int} (h : (Lit.int .i64 n).wf = true) : -9223372036854775808 ≤ n ∧ n ≤ 9223372036854775807 := by
  simp [Lit.wf, IntKind.min, IntKind.max, IntKind.signed, IntKind.bits] at h
  omega
theorem u8_in {n : Int} (h : (Lit.int .u8 n).wf = true) : 0 ≤ n ∧ n ≤ 255 := by
  simp [Lit.wf, IntKind.min, IntKind.max, IntKind.signed, IntKind.bits] at h
  omega

section
variable {H : Type} {enc : TypeId × Value → H} {W : World} {base : Nat} {sp : Nat → Bool} {held : Bool} {r : Reach} {b0 : Nat} {v : Value} {d : DataW H} {ps : List MemPlace}

theorem el_node {n : Nat} {cs : List Value} {x : DataW H × List MemPlace} (h : DataW.trod enc Try.prog W base sp held n 57 cs = some x) (hl : cs.length = 5) : ∃ a : Nd, cs = ndL a ∧ (0 ≤ a.n ∧ a.n ≤ 18446744073709551615) := by
  have hf := el_struct Try.underlying57 (by kernel_rfl) h (by rw [hl]; rfl)
  obtain ⟨a, b, c, d, e, rfl⟩ := list5 hl
  obtain ⟨k, rfl, -⟩ := el_int Try.underlying3 (hf 0 _ _ rfl rfl)
  obtain ⟨n, rfl, w1⟩ := el_int Try.underlying39 (hf 1 _ _ rfl rfl)
  obtain ⟨x, rfl, -⟩ := el_int Try.underlying3 (hf 2 _ _ rfl rfl)
  obtain ⟨y, rfl, -⟩ := el_int Try.underlying3 (hf 3 _ _ rfl rfl)
  obtain ⟨z, rfl, -⟩ := el_int Try.underlying3 (hf 4 _ _ rfl rfl)
  exact ⟨⟨k, n, x, y, z⟩, rfl, u64_in w1⟩

theorem open_node (hval : Value.okWide Try.prog W r b0 57 v) (h : DataW.Trod enc Try.prog W base sp held 57 v d ps) : ∃ a : Nd, v = .agg (ndL a).toArray ∧ (0 ≤ a.n ∧ a.n ≤ 18446744073709551615) := by
  obtain ⟨cs, rfl, hl, hf⟩ := open_st (m := 5) Try.underlying57 (by kernel_rfl) (by kernel_rfl) rfl hval h
  obtain ⟨a, b, c, d, e, rfl⟩ := list5 hl
  obtain ⟨k, rfl, -⟩ := el_int Try.underlying3 (hf 0 _ _ rfl rfl)
  obtain ⟨n, rfl, w1⟩ := el_int Try.underlying39 (hf 1 _ _ rfl rfl)
  obtain ⟨x, rfl, -⟩ := el_int Try.underlying3 (hf 2 _ _ rfl rfl)
  obtain ⟨y, rfl, -⟩ := el_int Try.underlying3 (hf 3 _ _ rfl rfl)
  obtain ⟨z, rfl, -⟩ := el_int Try.underlying3 (hf 4 _ _ rfl rfl)
  exact ⟨⟨k, n, x, y, z⟩, rfl, u64_in w1⟩
instance : Inhabited Nd := ⟨Nd.z⟩
theorem open_nodes (hval : Value.okWide Try.prog W r b0 22 v) (h : DataW.Trod enc Try.prog W base (fun _ => true) held 22 v d ps) :
    ∃ (ρ : List (Nat × Obj)) (l : List Nd), (∀ x ∈ ρ, W.heap[x.1]? = some x.2) ∧ Sl ρ ndL 5 v l ∧ ∀ a ∈ l, 0 ≤ a.n ∧ a.n ≤ 18446744073709551615 :=
  open_sl Try.underlying22 (by kernel_rfl) (by omega) (fun n cs x h hl => el_node h hl) hval h
theorem open_ints (hval : Value.okWide Try.prog W r b0 23 v) (h : DataW.Trod enc Try.prog W base (fun _ => true) held 23 v d ps) :
    ∃ (ρ : List (Nat × Obj)) (l : List Int), (∀ x ∈ ρ, W.heap[x.1]? = some x.2) ∧ Sl ρ (fun x : Int => [Value.int .i64 x]) 1 v l ∧ ∀ a ∈ l, True :=
  open_sl Try.underlying23 (by kernel_rfl) (by omega) (fun n cs x h hl => by
    obtain ⟨a, rfl⟩ := list1 hl
    obtain ⟨z, rfl, -⟩ := el_int Try.underlying3 ⟨_, _, h⟩
    exact ⟨z, rfl, trivial⟩) hval h
instance : Inhabited Stp := ⟨⟨0, 0, 0, 0, 0⟩⟩
theorem open_steps (hval : Value.okWide Try.prog W r b0 24 v) (h : DataW.Trod enc Try.prog W base (fun _ => true) held 24 v d ps) :
    ∃ (ρ : List (Nat × Obj)) (l : List Stp), (∀ x ∈ ρ, W.heap[x.1]? = some x.2) ∧ Sl ρ stpL 5 v l ∧ ∀ a ∈ l, 0 ≤ a.n ∧ a.n ≤ 18446744073709551615 :=
  open_sl Try.underlying24 (by kernel_rfl) (by omega) (fun n cs x h hl => by
    have hf := el_struct Try.underlying41 (by kernel_rfl) h (by rw [hl]; rfl)
    obtain ⟨a, b, c, d, e, rfl⟩ := list5 hl
    obtain ⟨k, rfl, -⟩ := el_int Try.underlying3 (hf 0 _ _ rfl rfl)
    obtain ⟨n, rfl, w1⟩ := el_int Try.underlying39 (hf 1 _ _ rfl rfl)
    obtain ⟨x, rfl, -⟩ := el_int Try.underlying3 (hf 2 _ _ rfl rfl)
    obtain ⟨y, rfl, -⟩ := el_int Try.underlying3 (hf 3 _ _ rfl rfl)
    obtain ⟨z, rfl, -⟩ := el_int Try.underlying3 (hf 4 _ _ rfl rfl)
    exact ⟨⟨k, n, x, y, z⟩, rfl, u64_in w1⟩) hval h
end
end Go.Proofs.Ythejfodjielahaa
