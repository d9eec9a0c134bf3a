/-
  A slice of one's own, nil or in a row: what is in it, what an append makes of it. Holds of every program.
-/
import Derived.Test.YthejfodjielahaaMaps
import Derived.Maps.AppendAt
namespace Go.Proofs.Ythejfodjielahaa
set_option maxRecDepth 8000
set_option linter.unusedSimpArgs false
set_option linter.unusedVariables false
open Go Go.RowKit

theorem ownsRow_loc {w w' : World} {el : TypeId} {size n : Nat} {v : Value} {xs : List Value} (h : w.ownsRow 0 el size v n xs) (hk : ∀ b ∈ v.ownBlock.toList, w'.heap[b]? = w.heap[b]?) : w'.ownsRow 0 el size v n xs := by
  refine ⟨h.1, ?_⟩
  rcases h.2 with hn | ⟨g, cap, cur, rfl, hb, hg, rest⟩
  · exact .inl hn
  · exact .inr ⟨g, cap, cur, rfl, hb, by rw [hk g (by simp [Value.ownBlock])]; exact hg, rest⟩

/-- A slice of one's own: n elements, its cells. -/
def Vec (el : TypeId) (size : Nat) (v : Value) (n : Nat) (xs : List Value) : HP where
  holds w X := w.ownsRow 0 el size v n xs ∧ X = v.ownBlock.toList
  loc := fun ⟨h, hx⟩ hk => ⟨ownsRow_loc h (fun b hb => hk b (by rw [hx]; exact hb)), hx⟩

section
variable {P : Program} {f : FuncId} {n : Nat} {R : Ending → World → Prop} {k : List Item} {e : Env} {ty : TypeId} {x y z : Operand} {u v : Value}
variable {we w : World} {ρ : List (Nat × Obj)} {σ σ' F : List HP} {d : Nat} {pos : String} {aft : Array Edge} {gd : Option (Nat × Bool)} {K : Env → World → Prop}
variable {el : TypeId} {size m cap : Nat} {xs : List Value}

theorem vec_nil (h : St we ρ F w) : St we ρ (Vec el size (.slice none 0 0) 0 [] :: F) w := by
  obtain ⟨hb, ⟨X, hs, hn, hr, hρ⟩, hro⟩ := h
  exact ⟨hb, ⟨X, ⟨[], X, rfl, ⟨World.ownsRow_nil w 0 el size, rfl⟩, hs⟩, hn, hr, hρ⟩, hro⟩

theorem vec_shut {g : Nat} {l : List Value} (h : St we ρ (Row g l el :: F) w) (h1 : m ≤ cap) (h2 : cap ≤ maxLen) (h3 : l.length = cap * size) (h4 : l.take (m * size) = xs) : St we ρ (Vec el size (.slice (some ⟨g, 0, none⟩) m cap) m xs :: F) w := by
  obtain ⟨hb, ⟨X, ⟨X1, X2, rfl, ha, hf⟩, hn, hr, hρ⟩, hro⟩ := h
  have ha' : X1 = [g] ∧ w.heap[g]? = some (.cells l.toArray el (0, 0)) := by unfold Row Blk at ha; exact ha
  refine ⟨hb, ⟨X1 ++ X2, ⟨X1, X2, rfl, ⟨⟨?_, .inr ⟨g, cap, l.toArray, rfl, Nat.zero_le _, ha'.2, h1, h2, by simpa using h3, h4⟩⟩, by simp [ha'.1, Value.ownBlock]⟩, hf⟩, hn, hr, hρ⟩, hro⟩
  rw [← h4, List.length_take, h3]
  exact Nat.min_eq_left (Nat.mul_le_mul_right _ h1)

theorem vec_open {v : Value} (h : St we ρ (Vec el size v m xs :: F) w) : xs.length = m * size ∧ ((v = .slice none 0 0 ∧ m = 0 ∧ xs = [] ∧ St we ρ F w) ∨
    ∃ g cap spare, v = .slice (some ⟨g, 0, none⟩) m cap ∧ m ≤ cap ∧ cap ≤ maxLen ∧ spare.length = (cap - m) * size ∧ St we ρ (Row g (xs ++ spare) el :: F) w) := by
  obtain ⟨hb, ⟨X, ⟨X1, X2, rfl, ⟨ho, hx⟩, hf⟩, hn, hr, hρ⟩, hro⟩ := h
  refine ⟨ho.1, ?_⟩
  rcases ho.2 with ⟨rfl, rfl⟩ | ⟨g, cap, cur, rfl, hbg, hg, hnc, hcm, hcs, htake⟩
  · refine .inl ⟨rfl, rfl, List.eq_nil_of_length_eq_zero (by simpa using ho.1), hb, ⟨X2, hf, (List.nodup_append.1 hn).2.1, fun b hb => hr b (by simp [hb]), fun x hx' h2 => hρ x hx' (by simp [h2])⟩, hro⟩
  · refine .inr ⟨g, cap, cur.toList.drop (m * size), rfl, hnc, hcm, ?_, hb, ⟨X1 ++ X2, ⟨X1, X2, rfl, ?_, hf⟩, hn, hr, hρ⟩, hro⟩
    · simp [hcs, Nat.sub_mul]
    · unfold Row Blk
      refine ⟨by simpa [Value.ownBlock] using hx, ?_⟩
      rw [hg, ← htake, List.take_append_drop]

/-- append of what lies in memory, upon a slice of one's own. -/
theorem OP.append {t : TypeId} {i : TypeInfo} {z : Value} {bytes q o c k : Nat} {l news : List Value} {el' : TypeId} {fr : Nat × Nat} {v : Value}
    (hS : St we ρ σ w) (hx : ev e x = some v) (hy : ev e y = some (.slice (some ⟨q, o, none⟩) k c)) (ht : elemB P t = some el) (hi : P.info? el = some i) (hz : i.zero = some z)
    (hsize : i.size = size) (hby : i.bytes = bytes) (hzs : z.cells.size = size) (hsz : 0 < size) (hT : Take (Vec el size v m xs) σ F) (hq : Rd ρ F q (.cells l.toArray el' fr))
    (hn : (l.drop o).take (k * size) = news) (hl : news.length = k * size) (h1 : ∀ u ∈ news, one u = true) (h63 : m + k ≤ maxLen) (hbytes : (m + k) * bytes ≤ 140737488355328) (hd : Nat.blt d n = true)
    (hk : ∀ v' w1, St we ρ (Vec el size v' (m + k) (xs ++ news) :: F) w1 → K ((d, v') :: e) w1) :
    OP P n ⟨some d, .call { callee := .builtin .append, args := #[x, y], argTypes := #[t, t] }, ty, pos, aft, gd⟩ e w K := by
  have hS1 := hS.take hT
  have hown : w.ownsRow 0 el size v m xs := by
    obtain ⟨X, ⟨X1, X2, rfl, ha, hf⟩, _⟩ := hS1.own
    exact ha.1
  have hro := hS1.tail.rd hq
  have hnews : ∀ j u, news[j]? = some u → w.cell? ((⟨q, o, none⟩ : Addr).add j) = some u := by
    intro j u hj
    rw [Addr.add_lit]
    refine cell_of hro ?_
    rw [← hn, List.getElem?_take] at hj
    split at hj
    · rwa [List.getElem?_drop] at hj
    · cases hj
  obtain ⟨v', w', e1, e2, e3, e4, e5⟩ := run_append_own_at (P := P) w 0 t ty el i z size bytes (run_elem ht) hi hz hsize hby hzs hsz v m xs hown ⟨q, o, none⟩ k c news hl hnews (fun u hu => one_oneCell (h1 u hu)) h63 hbytes (Nat.zero_le _)
  refine OP.put (v := v') (w' := w') (fun a ha => ?_) hd (hk v' w' ?_)
  · simp only [execOp, resolve, invoke, Deferred.ofValue, Sem.run_bind, Sem.run_pure, Result.andThen_ok, ha.ev hx, ha.ev hy]
    simp [builtin, ha.ev hx, ha.ev hy, e1]
  · refine hS1.turn e3.os e3.tape e3.output e3.size (fun X hX hnd => ⟨v'.ownBlock.toList, ⟨e2, rfl⟩, ?_, ?_, ?_, ?_⟩)
    · cases v'.ownBlock <;> simp
    · intro b hb
      rcases e5 with h | h
      · rw [h] at hb; exact .inl (by rw [hX.2]; exact hb)
      · rw [h] at hb; simp at hb; exact .inr (by omega)
    · intro b hb
      exact (e2.lt b (by simpa using hb)).2
    · intro b hb hX'
      refine e3.block b hb (fun h => hX' ?_)
      rw [hX.2, ← h]; simp
end
attribute [irreducible] Vec
end Go.Proofs.Ythejfodjielahaa
