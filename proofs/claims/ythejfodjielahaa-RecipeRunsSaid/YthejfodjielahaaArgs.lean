/-
  Slices that came in, read as lists; arguments that are structs. Holds of every program.
-/
import Derived.Test.YthejfodjielahaaMem
import Derived.Deep.Slices
import Derived.Deep.Fields
import Derived.Below
import Derived.ChangeOld
namespace Go.Proofs.Ythejfodjielahaa
set_option maxRecDepth 8000
set_option linter.unusedSimpArgs false
set_option linter.unusedVariables false
open Go Go.RowKit Go.ChangeShapes Go.WideShapes Go.Deep

/-- A slice that came in: its elements, each by its cells; read alone. -/
structure Sl {α : Type} (ρ : List (Nat × Obj)) (g : α → List Value) (size : Nat) (v : Value) (l : List α) : Prop where
  val : ∃ p cap, v = .slice p l.length cap ∧ l.length ≤ cap ∧ cap ≤ maxLen ∧ (0 < l.length → ∃ b off cs el fr, p = some ⟨b, off, none⟩ ∧ (b, Obj.cells (List.toArray cs) el fr) ∈ ρ ∧
    ∀ (i : Nat) (h : i < l.length), (cs.drop (off + i * size)).take size = g l[i])

theorem Sl.mono {α : Type} {ρ ρ' : List (Nat × Obj)} {g : α → List Value} {size : Nat} {v : Value} {l : List α} (h : Sl ρ g size v l) (hs : ∀ x ∈ ρ, x ∈ ρ') : Sl ρ' g size v l := by
  obtain ⟨p, cap, h1, h2, h3, h4⟩ := h
  refine ⟨p, cap, h1, h2, h3, fun h0 => ?_⟩
  obtain ⟨b, off, cs, el, fr, e1, e2, e3⟩ := h4 h0
  exact ⟨b, off, cs, el, fr, e1, hs _ e2, e3⟩

theorem take_of_get {cs : List Value} {k m : Nat} {xs : List Value} (hl : xs.length = m) (h : ∀ j, j < m → cs[k + j]? = xs[j]?) : (cs.drop k).take m = xs := by
  apply List.ext_getElem?
  intro j
  rw [List.getElem?_take]
  by_cases hj : j < m
  · rw [if_pos hj, List.getElem?_drop, h j hj]
  · rw [if_neg hj, List.getElem?_eq_none (by omega)]

section
variable {H : Type} {enc : TypeId × Value → H} {P : Program} {W : World} {base : Nat} {sp : Nat → Bool} {held : Bool}

theorem cell_plain {w : World} {a : Addr} {v : Value} (h : w.cell? a = some v) : ∃ cs el fr, w.heap[a.block]? = some (.cells cs el fr) ∧ a.spot = none ∧ cs[a.off]? = some v := by
  unfold World.cell? at h
  split at h
  · rename_i c el fr hh
    split at h
    · cases h
    · rename_i hs
      exact ⟨c, el, fr, hh, by cases hq : a.spot <;> simp_all, h⟩
  · cases h

theorem add_of_add' (a : Addr) (i j : Nat) : (a.add i).add j = a.add (i + j) := by
  unfold Addr.add
  by_cases hi : i = 0 <;> by_cases hj : j = 0 <;> simp [hi, hj, Nat.add_assoc]

theorem open_sl {α : Type} [Inhabited α] {r : Reach} {b0 : Nat} {g : α → List Value} {size : Nat} {Q : α → Prop} {t e : TypeId} {v : Value} {d : DataW H} {ps : List MemPlace}
    (ht : P.underlying t = some (.slice e)) (hC : P.cellsOf e = size) (hs : 0 < size)
    (hel : ∀ n cs x, DataW.trod enc P W base (fun _ => true) held n e cs = some x → cs.length = size → ∃ a, cs = g a ∧ Q a)
    (hval : Value.okWide P W r b0 t v) (h : DataW.Trod enc P W base (fun _ => true) held t v d ps) :
    ∃ (ρ : List (Nat × Obj)) (l : List α), (∀ x ∈ ρ, W.heap[x.1]? = some x.2) ∧ Sl ρ g size v l ∧ ∀ a ∈ l, Q a := by
  obtain ⟨pa, len, cap, rfl⟩ := okWide_slice ht hval
  obtain ⟨fuel, hf⟩ := h
  simp only [Value.cells] at hf
  rcases open_slice ht hf with ⟨hcs, _⟩ | ⟨a, len', cap', m, n, D, Pl, hcs, hb, hl, hm, hmm, _, hx⟩
  · simp only [List.cons.injEq, Value.slice.injEq, and_true] at hcs
    obtain ⟨rfl, rfl, rfl⟩ := hcs
    exact ⟨[], [], by simp, ⟨none, 0, rfl, by simp, Nat.zero_le _, by simp⟩, by simp⟩
  · simp only [List.cons.injEq, Value.slice.injEq, and_true] at hcs
    obtain ⟨rfl, rfl, rfl⟩ := hcs
    simp only [if_true] at hmm
    subst hmm
    rw [hC] at hx
    obtain ⟨f, hf⟩ := choose_lt (α := α) (n := m) (p := fun i y => (∀ j, j < size → W.cell? (a.add (i * size + j)) = (g y)[j]?) ∧ (g y).length = size ∧ Q y) (fun i hi => by
      obtain ⟨cs', hc, htr⟩ := hx i hi
      obtain ⟨_, hlen, hcell⟩ := World.cells?_some hc
      obtain ⟨y, rfl, hq⟩ := hel _ _ _ htr hlen
      exact ⟨y, fun j hj => by rw [← add_of_add']; exact hcell j hj, hlen, hq⟩)
    by_cases h0 : len = 0
    · subst h0
      exact ⟨[], [], by simp, ⟨some a, m, rfl, by simp, hm, by simp⟩, by simp⟩
    · have hc0 : ∃ v0, W.cell? (a.add (0 * size + 0)) = some v0 := by
        have h1 := (hf 0 (by omega)).1 0 hs
        have h2 := (hf 0 (by omega)).2.1
        exact ⟨_, h1.trans (List.getElem?_eq_getElem (by omega))⟩
      obtain ⟨v0, hc0⟩ := hc0
      obtain ⟨cs, el, fr, hh, hsp, _⟩ := cell_plain hc0
      obtain ⟨b, off, spot⟩ := a
      have hsp' : spot = none := by simpa [Addr.add] using hsp
      subst hsp'
      have hh' : W.heap[b]? = some (.cells cs.toList.toArray el fr) := by simpa [Addr.add] using hh
      refine ⟨[(b, .cells cs.toList.toArray el fr)], (List.range len).map f, by simpa using hh', ⟨some ⟨b, off, none⟩, m, by simp, by simpa using hl, hm, fun _ => ⟨b, off, cs.toList, el, fr, rfl, by simp, fun i hi => ?_⟩⟩, ?_⟩
      · simp only [List.length_map, List.length_range] at hi
        obtain ⟨h1, h2, _⟩ := hf i (by omega)
        simp only [List.getElem_map, List.getElem_range]
        refine take_of_get h2 (fun j hj => ?_)
        rw [← h1 j hj, Addr.add_lit]
        simp [World.cell?, hh', Nat.add_assoc]
      · intro y hy
        obtain ⟨i, hi, rfl⟩ := List.mem_map.1 hy
        exact (hf i (by have := List.mem_range.1 hi; omega)).2.2

/-- What an element that is a struct of one-cell fields is: field by field. -/
theorem el_struct {e : TypeId} {fs : Array Field} {n : Nat} {cs : List Value} {x : DataW H × List MemPlace} (he : P.underlying e = some (.struct fs)) (hone : oneCellFields P fs = true)
    (h : DataW.trod enc P W base sp held n e cs = some x) (hl : cs.length = fs.size) : ∀ (j : Nat) (f : Field) (u : Value), fs[j]? = some f → cs[j]? = some u → ∃ n' y, DataW.trod enc P W base sp held n' f.type [u] = some y := by
  obtain ⟨xs, n', _, _, _, hxl, hf⟩ := DataW.trod_struct he h
  intro j f u hj hu
  obtain ⟨ho, hk⟩ := hone_of hone j f hj
  have h1 := hf j f hj
  rw [ho, hk] at h1
  have hjl : j < fs.size := (Array.getElem?_eq_some_iff.1 hj).1
  have h2 : (cs.drop j).take 1 = [u] := by
    have : j < cs.length := by omega
    rw [List.drop_eq_getElem_cons this]
    rw [List.getElem?_eq_getElem this] at hu
    simp at hu
    simp [hu]
  rw [h2, List.getElem?_eq_getElem (show j < xs.length by omega)] at h1
  exact ⟨n', _, h1⟩

theorem el_int {t : TypeId} {k : IntKind} (ht : P.underlying t = some (.int k)) {u : Value} (h : ∃ n y, DataW.trod enc P W base sp held n t [u] = some y) : ∃ z, u = .int k z ∧ (Lit.int k z).wf = true := by
  obtain ⟨n, y, h⟩ := h
  obtain ⟨z, h1, _, h3⟩ := DataW.trod_int ht h
  exact ⟨z, by simpa using h1, h3⟩
theorem el_bool {t : TypeId} (ht : P.underlying t = some .bool) {u : Value} (h : ∃ n y, DataW.trod enc P W base sp held n t [u] = some y) : ∃ z, u = .bool z := by
  obtain ⟨n, y, h⟩ := h
  obtain ⟨z, h1, _⟩ := DataW.trod_bool ht h
  exact ⟨z, by simpa using h1⟩
theorem el_string {t : TypeId} (ht : P.underlying t = some .string) {u : Value} (h : ∃ n y, DataW.trod enc P W base sp held n t [u] = some y) : ∃ z : ByteArray, u = .string z ∧ z.size ≤ maxLen := by
  obtain ⟨n, y, h⟩ := h
  obtain ⟨z, h1, _, h3⟩ := DataW.trod_string ht h
  exact ⟨z, by simpa using h1, h3⟩

theorem list1 {cs : List Value} (h : cs.length = 1) : ∃ a, cs = [a] := by match cs, h with | [a], _ => exact ⟨a, rfl⟩
theorem list2 {cs : List Value} (h : cs.length = 2) : ∃ a b, cs = [a, b] := by match cs, h with | [a, b], _ => exact ⟨a, b, rfl⟩
theorem list3 {cs : List Value} (h : cs.length = 3) : ∃ a b c, cs = [a, b, c] := by match cs, h with | [a, b, c], _ => exact ⟨a, b, c, rfl⟩
theorem list4 {cs : List Value} (h : cs.length = 4) : ∃ a b c d, cs = [a, b, c, d] := by match cs, h with | [a, b, c, d], _ => exact ⟨a, b, c, d, rfl⟩
theorem list5 {cs : List Value} (h : cs.length = 5) : ∃ a b c d e, cs = [a, b, c, d, e] := by match cs, h with | [a, b, c, d, e], _ => exact ⟨a, b, c, d, e, rfl⟩

/-- An argument that is a struct: its cells. -/
theorem open_st {r : Reach} {b0 : Nat} {t : TypeId} {fs : Array Field} {m : Nat} {v : Value} {d : DataW H} {ps : List MemPlace} (ht : P.underlying t = some (.struct fs)) (hC : P.cellsOf t = m) (hone : oneCellFields P fs = true) (hm : fs.size = m)
    (hval : Value.okWide P W r b0 t v) (h : DataW.Trod enc P W base sp held t v d ps) :
    ∃ cs : List Value, v = .agg cs.toArray ∧ cs.length = m ∧ ∀ (j : Nat) (f : Field) (u : Value), fs[j]? = some f → cs[j]? = some u → ∃ n' y, DataW.trod enc P W base sp held n' f.type [u] = some y := by
  obtain ⟨cs, rfl, hsz⟩ := okWide_struct ht hval
  obtain ⟨fuel, hf⟩ := h
  refine ⟨cs.toList, by simp, by simpa [hC] using hsz, el_struct ht hone hf ?_⟩
  simp only [Value.cells, Array.length_toList]
  rw [hm, ← hC]; exact hsz
end

theorem mem_app1 {α : Type} {a b : List α} : ∀ x ∈ a, x ∈ a ++ b := fun x h => List.mem_append.2 (.inl h)
theorem mem_app2 {α : Type} {a b : List α} : ∀ x ∈ b, x ∈ a ++ b := fun x h => List.mem_append.2 (.inr h)
end Go.Proofs.Ythejfodjielahaa
