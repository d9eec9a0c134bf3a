/-
  append of a slice that is read alone, empty or not.
-/
import Derived.Test.YthejfodjielahaaMore
import Derived.Test.YthejfodjielahaaFroze
import Derived.Test.YthejfodjielahaaRecipeWords
namespace Go.Proofs.Ythejfodjielahaa
set_option maxRecDepth 8000
set_option linter.unusedSimpArgs false
set_option linter.unusedVariables false
open Go Go.RowKit

theorem rows_flat {α : Type} {g : α → List Value} {size : Nat} (cs : List Value) : ∀ (l : List α) (off : Nat), (∀ (i : Nat) (h : i < l.length), (cs.drop (off + i * size)).take size = g l[i]) → (cs.drop off).take (l.length * size) = l.flatMap g := by
  intro l
  induction l with
  | nil => intro off _; simp
  | cons a l ih =>
    intro off h
    have h0 := h 0 (by simp)
    rw [Nat.zero_mul, Nat.add_zero] at h0
    have h1 := ih (off + size) (fun i hi => by
      have := h (i + 1) (by simp; omega)
      rw [Nat.add_mul, Nat.one_mul, show off + (i * size + size) = off + size + i * size by omega] at this
      exact this)
    rw [List.length_cons, Nat.add_mul, Nat.one_mul, Nat.add_comm (l.length * size) size, List.take_add, h0, List.drop_drop, h1, List.flatMap_cons]
    rfl

theorem sum_len {α : Type} {g : α → List Value} {size : Nat} (hg : ∀ a, (g a).length = size) (l : List α) : (l.map fun a => (g a).length).sum = l.length * size := by
  induction l with
  | nil => simp
  | cons a l ih => rw [List.map_cons, List.sum_cons, ih, hg, List.length_cons, Nat.add_mul, Nat.one_mul, Nat.add_comm]

section
variable {P : Program} {n : Nat} {e : Env} {ty : TypeId} {x y : Operand}
variable {we w : World} {ρ : List (Nat × Obj)} {σ F : List HP} {d : Nat} {pos : String} {aft : Array Edge} {gd : Option (Nat × Bool)} {K : Env → World → Prop}
variable {el : TypeId} {size m : Nat} {xs : List Value}

theorem OP.appendNone {t el : TypeId} {i : TypeInfo} {size m : Nat} {xs : List Value} {p : Option Addr} {c : Nat} {v : Value} (hS : St we ρ σ w) (hx : ev e x = some v) (hy : ev e y = some (.slice p 0 c)) (ht : elemB P t = some el) (hi : P.info? el = some i)
    (hT : Take (Vec el size v m xs) σ F) (hd : Nat.blt d n = true) (hk : K ((d, v) :: e) w) :
    OP P n ⟨some d, .call { callee := .builtin .append, args := #[x, y], argTypes := #[t, t] }, ty, pos, aft, gd⟩ e w K := by
  have hform : ∃ pk cap, v = .slice pk m cap ∧ m ≤ cap := by
    rcases (vec_open (hS.take hT)).2 with ⟨rfl, rfl, _⟩ | ⟨g, cap, spare, rfl, h1, _⟩
    · exact ⟨_, _, rfl, Nat.le_refl _⟩
    · exact ⟨_, _, rfl, h1⟩
  obtain ⟨pk, cap, rfl, hle⟩ := hform
  refine OP.put (fun a ha => ?_) hd hk
  have hrun : (Builtin.append_ #[t, t] ty #[.slice pk m cap, .slice p 0 c]).run P w = .ok (.slice pk m cap) w := by
    cases pk <;> cases p <;> simp [Builtin.append_, run_underlying (run_elem ht), sizeOf, typeInfo, hi, Builtin.lenOf, Builtin.firstCells, hle, storeCells, loadCells, loadCellsFrom]
  simp only [execOp, resolve, invoke, Sem.run_bind, Sem.run_pure, Result.andThen_ok]
  simp [builtin, ha.ev hx, ha.ev hy, hrun]

theorem OP.appendSl {α : Type} {g : α → List Value} {l : List α} {u v : Value} {t : TypeId} {i : TypeInfo} {z : Value} {bytes : Nat}
    (hS : St we ρ σ w) (hs : Sl ρ g size u l) (hg : ∀ a, (g a).length = size) (h1 : ∀ a, ∀ c ∈ g a, one c = true) (hx : ev e x = some v) (hy : ev e y = some u) (ht : elemB P t = some el) (hi : P.info? el = some i) (hz : i.zero = some z)
    (hsize : i.size = size) (hby : i.bytes = bytes) (hzs : z.cells.size = size) (hsz : 0 < size) (hT : Take (Vec el size v m xs) σ F)
    (h63 : m + l.length ≤ maxLen) (hbytes : (m + l.length) * bytes ≤ 140737488355328) (hd : Nat.blt d n = true)
    (hk : ∀ v' w1, St we ρ (Vec el size v' (m + l.length) (xs ++ l.flatMap g) :: F) w1 → K ((d, v') :: e) w1) :
    OP P n ⟨some d, .call { callee := .builtin .append, args := #[x, y], argTypes := #[t, t] }, ty, pos, aft, gd⟩ e w K := by
  obtain ⟨p, cap, rfl, hle, hcm, hrow⟩ := hs.val
  by_cases h0 : 0 < l.length
  · obtain ⟨b, off, cs, el', fr, rfl, hmem, hnd⟩ := hrow h0
    refine OP.append (news := l.flatMap g) hS hx hy ht hi hz hsize hby hzs hsz hT (Rd.ro hmem) (rows_flat cs l off hnd) ?_ ?_ h63 hbytes hd hk
    · rw [List.length_flatMap]
      exact sum_len hg l
    · intro c hc
      obtain ⟨a, _, h⟩ := List.mem_flatMap.1 hc
      exact h1 a c h
  · have hl0 : l = [] := List.eq_nil_of_length_eq_zero (by omega)
    subst hl0
    refine OP.appendNone hS hx hy ht hi hT hd (hk _ _ ?_)
    rw [List.flatMap_nil, List.append_nil, List.length_nil, Nat.add_zero]
    exact hS.take hT
end
theorem stpL_length (s : Stp) : (stpL s).length = 5 := rfl
theorem stpL_one (s : Stp) : ∀ c ∈ stpL s, one c = true := by
  intro c hc
  simp [stpL] at hc
  rcases hc with rfl | rfl | rfl | rfl | rfl <;> rfl
end Go.Proofs.Ythejfodjielahaa
