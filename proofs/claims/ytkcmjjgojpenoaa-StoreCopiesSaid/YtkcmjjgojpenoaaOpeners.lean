/-
  The arguments of this layer's statements, opened: slices of nodes, numbers, texts, steps; structs.
-/
import Derived.Test.YtkcmjjgojpenoaaProg
import Derived.Test.YtkcmjjgojpenoaaArgs
import Derived.Test.YtkcmjjgojpenoaaStoreWords
import Derived.OpenShut
import Derived.ShutString
import Derived.SliceStrings
import Derived.ChangeMaps5
namespace Go.Proofs.Ytkcmjjgojpenoaa
set_option linter.unusedSimpArgs false
set_option linter.unusedVariables false
open Go Go.RowKit Go.ChangeShapes Go.WideShapes Go.Deep

theorem u64_in {n : Int} (h : (Lit.int .u64 n).wf = true) : 0 ≤ n ∧ n ≤ 18446744073709551615 := by
  simp [Lit.wf, IntKind.min, IntKind.max, IntKind.signed, IntKind.bits] at h
  omega
theorem i64_in {n : Int} (h : (Lit.int .i64 n).wf = true) : -9223372036854775808 ≤ n ∧ n ≤ 9223372036854775807 := by
  simp [Lit.wf, IntKind.min, IntKind.max, IntKind.signed, IntKind.bits] at h
  omega
theorem u8_in {n : Int} (h : (Lit.int .u8 n).wf = true) : 0 ≤ n ∧ n ≤ 255 := by
  simp [Lit.wf, IntKind.min, IntKind.max, IntKind.signed, IntKind.bits] at h
  omega

section
variable {H : Type} {enc : TypeId × Value → H} {W : World} {base : Nat} {sp : Nat → Bool} {held : Bool} {r : Reach} {b0 : Nat} {v : Value} {d : DataW H} {ps : List MemPlace}

theorem open_ints (hval : Value.okWide Try.prog W r b0 26 v) (h : DataW.Trod enc Try.prog W base (fun _ => true) held 26 v d ps) :
    ∃ (ρ : List (Nat × Obj)) (l : List Int), (∀ x ∈ ρ, W.heap[x.1]? = some x.2) ∧ Sl ρ (fun x : Int => [Value.int .i64 x]) 1 v l ∧ ∀ a ∈ l, True :=
  open_sl Try.underlying26 (by kernel_rfl) (by omega) (fun n cs x h hl => by
    obtain ⟨a, rfl⟩ := list1 hl
    obtain ⟨z, rfl, -⟩ := el_int Try.underlying3 ⟨_, _, h⟩
    exact ⟨z, rfl, trivial⟩) hval h
instance : Inhabited ByteArray := ⟨ByteArray.empty⟩
theorem open_strings (hval : Value.okWide Try.prog W r b0 22 v) (h : DataW.Trod enc Try.prog W base (fun _ => true) held 22 v d ps) :
    ∃ (ρ : List (Nat × Obj)) (l : List ByteArray), (∀ x ∈ ρ, W.heap[x.1]? = some x.2) ∧ Sl ρ (fun x : ByteArray => [Value.string x]) 1 v l ∧ ∀ a ∈ l, a.size ≤ maxLen :=
  open_sl Try.underlying22 (by kernel_rfl) (by omega) (fun n cs x h hl => by
    obtain ⟨a, rfl⟩ := list1 hl
    obtain ⟨z, rfl, w1⟩ := el_string Try.underlying9 ⟨_, _, h⟩
    exact ⟨z, rfl, w1⟩) hval h
instance : Inhabited SOp := ⟨⟨0, 0, ByteArray.empty⟩⟩
theorem open_sops (hval : Value.okWide Try.prog W r b0 33 v) (h : DataW.Trod enc Try.prog W base (fun _ => true) held 33 v d ps) :
    ∃ (ρ : List (Nat × Obj)) (l : List SOp), (∀ x ∈ ρ, W.heap[x.1]? = some x.2) ∧ Sl ρ sopL 3 v l ∧ ∀ a ∈ l, True :=
  open_sl Try.underlying33 (by kernel_rfl) (by omega) (fun n cs x h hl => by
    have hf := el_struct Try.underlying37 (by kernel_rfl) h (by rw [hl]; rfl)
    obtain ⟨a, b, c, rfl⟩ := list3 hl
    obtain ⟨k, rfl, -⟩ := el_int Try.underlying3 (hf 0 _ _ rfl rfl)
    obtain ⟨y, rfl, -⟩ := el_int Try.underlying3 (hf 1 _ _ rfl rfl)
    obtain ⟨z, rfl, -⟩ := el_string Try.underlying9 (hf 2 _ _ rfl rfl)
    exact ⟨⟨k, y, z⟩, rfl, trivial⟩) hval h
end
end Go.Proofs.Ytkcmjjgojpenoaa
