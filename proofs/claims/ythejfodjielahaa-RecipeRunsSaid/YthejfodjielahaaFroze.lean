/-
  A slice of one's own that is written no more: read as one that came in. Slices of ints read one by one. Holds of every program.
-/
import Derived.Test.YthejfodjielahaaMore
import Derived.Test.YthejfodjielahaaArgs
namespace Go.Proofs.Ythejfodjielahaa
set_option maxRecDepth 8000
set_option linter.unusedSimpArgs false
set_option linter.unusedVariables false
open Go Go.RowKit

theorem flatMap_at {α : Type} {g : α → List Value} {size : Nat} (hg : ∀ a, (g a).length = size) : ∀ (l : List α) (spare : List Value) (i : Nat) (h : i < l.length), ((l.flatMap g ++ spare).drop (i * size)).take size = g l[i] := by
  intro l
  induction l with
  | nil => intro spare i h; simp at h
  | cons a l ih =>
    intro spare i h
    cases i with
    | zero => simp only [List.flatMap_cons, List.append_assoc, Nat.zero_mul, List.drop_zero, List.getElem_cons_zero]; rw [← hg a]; exact List.take_left
    | succ i =>
      have h' : i < l.length := by simpa using h
      have := ih spare i h'
      rw [List.getElem_cons_succ, ← this, List.flatMap_cons, List.append_assoc, show (i + 1) * size = (g a).length + i * size by rw [hg a, Nat.succ_mul]; omega, List.drop_append, List.drop_eq_nil_of_le (by omega), List.nil_append, Nat.add_sub_cancel_left]
theorem flatMap_length {α : Type} {g : α → List Value} {size : Nat} (hg : ∀ a, (g a).length = size) (l : List α) : (l.flatMap g).length = l.length * size := by
  induction l with
  | nil => simp
  | cons a l ih => simp [ih, hg, Nat.succ_mul]; omega

section
variable {we w : World} {ρ : List (Nat × Obj)} {σ F : List HP} {el : TypeId} {size : Nat} {v : Value}

/-- What a frozen slice leaves: more that is read alone. -/
structure Over (we : World) (ρ ρ' : List (Nat × Obj)) : Prop where
  sub : ∀ x ∈ ρ, x ∈ ρ'
  back : ∀ {σ : List HP} {w : World}, St we ρ' σ w → St we ρ σ w
theorem Over.refl (we : World) (ρ : List (Nat × Obj)) : Over we ρ ρ := ⟨fun _ h => h, fun h => h⟩
theorem Over.trans {we : World} {a b c : List (Nat × Obj)} (h : Over we a b) (k : Over we b c) : Over we a c := ⟨fun x hx => k.sub x (h.sub x hx), fun q => h.back (k.back q)⟩

theorem vec_freeze {α : Type} {g : α → List Value} {l : List α} (hg : ∀ a, (g a).length = size) (h : St we ρ (Vec el size v l.length (l.flatMap g) :: F) w) :
    ∃ ρ', Over we ρ ρ' ∧ Sl ρ' g size v l ∧ St we ρ' F w := by
  obtain ⟨hxl, ⟨rfl, h0, _, hS⟩ | ⟨g0, cap, spare, rfl, h1, h2, h3, hS⟩⟩ := vec_open h
  · obtain rfl := List.eq_nil_of_length_eq_zero h0
    exact ⟨ρ, Over.refl _ _, ⟨⟨none, 0, rfl, by simp, by simp, fun h => by simp at h⟩⟩, hS⟩
  · refine ⟨(g0, .cells (l.flatMap g ++ spare).toArray el (0, 0)) :: ρ, ⟨fun x hx => by simp [hx], fun h => h.ro_tail⟩, ⟨⟨_, cap, rfl, h1, h2, fun _ => ⟨g0, 0, l.flatMap g ++ spare, el, (0, 0), rfl, by simp, fun i hi => ?_⟩⟩⟩, hS.freeze⟩
    rw [Nat.zero_add]
    exact flatMap_at hg l spare i hi
end

/-- An int's cell; a row of ints. -/
def intL (x : Int) : List Value := [.int .i64 x]
theorem intL_length (x : Int) : (intL x).length = 1 := rfl
theorem ints_flat (l : List Int) : l.flatMap intL = l.map (Value.int .i64) := by
  induction l with
  | nil => rfl
  | cons a l ih => simp [intL, ih]
theorem take1_get {cs : List Value} {k : Nat} {x : Value} (h : (cs.drop k).take 1 = [x]) : cs[k]? = some x := by
  have h1 : ((cs.drop k).take 1)[0]? = some x := by rw [h]; rfl
  rw [List.getElem?_take, if_pos (by omega), List.getElem?_drop] at h1
  exact h1
theorem ints_one {l : List Int} : ∀ u ∈ l.map (Value.int .i64), one u = true := by
  intro u hu
  obtain ⟨x, _, rfl⟩ := List.mem_map.1 hu
  rfl
/-- Where a slice of ints has its i-th one. -/
theorem Sl.int {ρ : List (Nat × Obj)} {p : Option Addr} {cap : Nat} {l : List Int} (h : Sl ρ intL 1 (.slice p l.length cap) l) {i : Nat} (hi : i < l.length) : ∃ b off cs el fr, p = some ⟨b, off, none⟩ ∧ (b, Obj.cells (List.toArray cs) el fr) ∈ ρ ∧ cs[off + i]? = some (.int .i64 l[i]) := by
  obtain ⟨p', cap', e, _, _, hr⟩ := h.val
  simp only [Value.slice.injEq] at e
  obtain ⟨rfl, -, rfl⟩ := e
  obtain ⟨b, off, cs, el, fr, rfl, hm, hc⟩ := hr (by omega)
  refine ⟨b, off, cs, el, fr, rfl, hm, ?_⟩
  have := hc i hi
  rw [Nat.mul_one] at this
  exact take1_get this
end Go.Proofs.Ythejfodjielahaa
