/-
  slices.IndexFunc and slices.ContainsFunc over ints.
-/
import Derived.Test.YthejfodjielahaaProg
import Derived.Test.YthejfodjielahaaAuto
namespace Go.Proofs.Ythejfodjielahaa
set_option maxRecDepth 8000
set_option linter.unusedSimpArgs false
set_option linter.unusedVariables false
open Go Go.RowKit

/-- The first place whose element meets p; -1: none. -/
def firstAt (p : Int → Bool) : List Int → Int → Int
  | [], _ => -1
  | x :: l, i => if p x = true then i else firstAt p l (i + 1)

/-- slices.IndexFunc over ints, whatever the function is, if each call of it leaves what is owned as it is. -/
theorem indexFunc {we w : World} {ρ : List (Nat × Obj)} {σ : List HP} {xs : List Int} {b off cap : Nat} {l : List Value} {el : TypeId} {fr : Nat × Nat} {g : FuncId} {cs : List Value} (p : Int → Bool)
    (hS : St we ρ σ w) (hr : Rd ρ σ b (.cells l.toArray el fr)) (hl : ∀ (i : Nat) (x : Int), xs[i]? = some x → l[off + i]? = some (.int .i64 x)) (hm : xs.length ≤ maxLen)
    (hg : fnB Try.prog g = true) (hf : ∀ x w, St we ρ σ w → Cl Try.prog g (([] : List Value) ++ [Value.int .i64 x] ++ cs) w fun v w' => v = .bool (p x) ∧ St we ρ σ w') :
    Cl Try.prog 58 [.slice (some ⟨b, off, none⟩) xs.length cap, .func (.func g) #[] cs.toArray] w fun v w' => v = .int .i64 (firstAt p xs 0) ∧ St we ρ σ w' := by
  unfold maxLen at hm
  refine Run.calls2 (n := 19) Try.func58 rfl rfl rfl ?_
  repeat' first
    | refine Run.seq ?_
    | refine Run.region ?_
    | (refine RO.split ?_ ?_ <;> intro hc <;> try (first | (exfalso; omega) | exact absurd rfl hc | exact Bool.noConfusion hc))
    | refine RO.nil ?_
    | refine RO.still (by exact Still.any) hS rfl ?_
    | (apply RO.op; apply OP.box hS; rfl; rfl; rfl; clear hS; intro b w1 hS)
    | (apply RO.op; apply OP.alloc hS; rfl; rfl; rfl; clear hS; intro b w1 hS)
    | (apply RO.op; apply OP.store hS; rfl; rfl; rfl; rfl; rfl; (focus ((repeat (first | apply Has.head | apply Take.head | apply Put.head | apply Has.tail | apply Take.tail | apply Put.tail)); done)); rfl; rfl; clear hS; intro w1 hS)
    | (apply RO.op; apply OP.buildSlice hS; rfl; rfl; (exact eqAuto); rfl; rfl; rfl; rfl; rfl; clear hS; intro b w1 hS)
    | (apply RO.op; apply OP.makeMap hS; rfl; clear hS; intro b w1 hS)
    | refine RO.yes rfl rfl ?_
    | refine RO.no rfl rfl rfl rfl ?_
    | refine RO.noUndef rfl rfl rfl ?_
    | refine RO.noNone rfl rfl rfl ?_
    | refine Run.cond_true rfl ?_
    | refine Run.cond_false rfl ?_
    | refine Run.skip ?_
    | refine Run.block ?_
    | refine Run.inBlock ?_
    | refine Run.exit rfl ?_
  refine Run.while (fun i : Nat => [(0, .slice (some ⟨b, off, none⟩) xs.length cap), (1, .func (.func g) #[] cs.toArray), (7, .int .i64 xs.length), (8, .int .i64 i)])
    (fun i w => i ≤ xs.length ∧ firstAt p xs 0 = firstAt p (xs.drop i) i ∧ St we ρ σ w) (fun i => xs.length - i) 0 ⟨by omega, by simp, hS⟩ (by focus ((repeat (first | exact .nil | refine .cons rfl ?_)); done)) ?_
  clear hS
  rintro i w ⟨hi, hfirst, hS⟩ ih
  by_cases hlt : i < xs.length
  · have hx : xs[i]? = some xs[i] := List.getElem?_eq_getElem hlt
    have hli := hl i _ hx
    have hd : xs.drop i = xs[i] :: xs.drop (i + 1) := List.drop_eq_getElem_cons hlt
    repeat' first
      | (apply RO.op; apply OP.callV; rfl; exact hg; rfl; rfl; exact hf _ _ hS; clear hS; rintro v w1 ⟨rfl, hS⟩; refine RO.splitB ?_ ?_ <;> intro hb)
      | (refine RO.still (Still.load rfl rfl hr hli) hS rfl ?_)
      | refine Run.seq ?_
      | refine Run.region ?_
      | (refine RO.split ?_ ?_ <;> intro hc <;> try (first | (exfalso; omega) | exact absurd rfl hc | exact Bool.noConfusion hc))
      | refine RO.nil ?_
      | refine RO.still (by exact Still.any) hS rfl ?_
      | (apply RO.op; apply OP.box hS; rfl; rfl; rfl; clear hS; intro b w1 hS)
      | (apply RO.op; apply OP.alloc hS; rfl; rfl; rfl; clear hS; intro b w1 hS)
      | (apply RO.op; apply OP.store hS; rfl; rfl; rfl; rfl; rfl; (focus ((repeat (first | apply Has.head | apply Take.head | apply Put.head | apply Has.tail | apply Take.tail | apply Put.tail)); done)); rfl; rfl; clear hS; intro w1 hS)
      | (apply RO.op; apply OP.buildSlice hS; rfl; rfl; (exact eqAuto); rfl; rfl; rfl; rfl; rfl; clear hS; intro b w1 hS)
      | (apply RO.op; apply OP.makeMap hS; rfl; clear hS; intro b w1 hS)
      | refine RO.yes rfl rfl ?_
      | refine RO.no rfl rfl rfl rfl ?_
      | refine RO.noUndef rfl rfl rfl ?_
      | refine RO.noNone rfl rfl rfl ?_
      | refine Run.cond_true rfl ?_
      | refine Run.cond_false rfl ?_
      | refine Run.skip ?_
      | refine Run.block ?_
      | refine Run.inBlock ?_
      | refine Run.exit rfl ?_
    · refine Run.ret Try.func58 rfl (.tmp rfl .nil) ?_
      exact ⟨by rw [hfirst, hd]; simp [firstAt, hb, tup], hS⟩
    · refine Run.weaken (e' := [_, _, _, (8, .int .i64 ((i + 1 : Nat) : Int))]) (by focus ((repeat (first | exact .nil | refine .cons rfl ?_)); done)) (ih (i + 1) _ ⟨by omega, ?_, hS⟩ (by omega))
      rw [hfirst, hd]; simp [firstAt, hb]
  · obtain rfl : i = xs.length := by omega
    repeat' first
      | refine Run.seq ?_
      | refine Run.region ?_
      | (refine RO.split ?_ ?_ <;> intro hc <;> try (first | (exfalso; omega) | exact absurd rfl hc | exact Bool.noConfusion hc))
      | refine RO.nil ?_
      | refine RO.still (by exact Still.any) hS rfl ?_
      | (apply RO.op; apply OP.box hS; rfl; rfl; rfl; clear hS; intro b w1 hS)
      | (apply RO.op; apply OP.alloc hS; rfl; rfl; rfl; clear hS; intro b w1 hS)
      | (apply RO.op; apply OP.store hS; rfl; rfl; rfl; rfl; rfl; (focus ((repeat (first | apply Has.head | apply Take.head | apply Put.head | apply Has.tail | apply Take.tail | apply Put.tail)); done)); rfl; rfl; clear hS; intro w1 hS)
      | (apply RO.op; apply OP.buildSlice hS; rfl; rfl; (exact eqAuto); rfl; rfl; rfl; rfl; rfl; clear hS; intro b w1 hS)
      | (apply RO.op; apply OP.makeMap hS; rfl; clear hS; intro b w1 hS)
      | refine RO.yes rfl rfl ?_
      | refine RO.no rfl rfl rfl rfl ?_
      | refine RO.noUndef rfl rfl rfl ?_
      | refine RO.noNone rfl rfl rfl ?_
      | refine Run.cond_true rfl ?_
      | refine Run.cond_false rfl ?_
      | refine Run.skip ?_
      | refine Run.block ?_
      | refine Run.inBlock ?_
      | refine Run.exit rfl ?_
    refine Run.ret Try.func58 rfl (.tmp rfl .nil) ?_
    exact ⟨by rw [hfirst]; simp [firstAt, tup], hS⟩

theorem firstAt_neg {p : Int → Bool} : ∀ {l : List Int} {i : Int}, 0 ≤ i → (0 ≤ firstAt p l i ↔ l.any p = true)
  | [], i, _ => by simp [firstAt]
  | x :: l, i, hi => by
    simp only [firstAt, List.any_cons]
    cases hp : p x with
    | true => simp [hi]
    | false => simpa using firstAt_neg (p := p) (l := l) (i := i + 1) (by omega)

theorem containsFunc {we w : World} {ρ : List (Nat × Obj)} {σ : List HP} {xs : List Int} {b off cap : Nat} {l : List Value} {el : TypeId} {fr : Nat × Nat} {g : FuncId} {cs : List Value} (p : Int → Bool)
    (hS : St we ρ σ w) (hr : Rd ρ σ b (.cells l.toArray el fr)) (hl : ∀ (i : Nat) (x : Int), xs[i]? = some x → l[off + i]? = some (.int .i64 x)) (hm : xs.length ≤ maxLen)
    (hg : fnB Try.prog g = true) (hf : ∀ x w, St we ρ σ w → Cl Try.prog g (([] : List Value) ++ [Value.int .i64 x] ++ cs) w fun v w' => v = .bool (p x) ∧ St we ρ σ w') :
    Cl Try.prog 48 [.slice (some ⟨b, off, none⟩) xs.length cap, .func (.func g) #[] cs.toArray] w fun v w' => v = .bool (xs.any p) ∧ St we ρ σ w' := by
  refine Run.calls2 (n := 9) Try.func48 rfl rfl rfl ?_
  have hn := firstAt_neg (p := p) (l := xs) (i := 0) (by omega)
  repeat' first
    | (apply RO.op; apply OP.callF; rfl; rfl; rfl; exact indexFunc p hS hr hl hm hg hf; clear hS; rintro v w1 ⟨rfl, hS⟩)
    | refine Run.seq ?_
    | refine Run.region ?_
    | (refine RO.split ?_ ?_ <;> intro hc <;> try (first | (exfalso; omega) | exact absurd rfl hc | exact Bool.noConfusion hc))
    | refine RO.nil ?_
    | refine RO.still (by exact Still.any) hS rfl ?_
    | (apply RO.op; apply OP.box hS; rfl; rfl; rfl; clear hS; intro b w1 hS)
    | (apply RO.op; apply OP.alloc hS; rfl; rfl; rfl; clear hS; intro b w1 hS)
    | (apply RO.op; apply OP.store hS; rfl; rfl; rfl; rfl; rfl; (focus ((repeat (first | apply Has.head | apply Take.head | apply Put.head | apply Has.tail | apply Take.tail | apply Put.tail)); done)); rfl; rfl; clear hS; intro w1 hS)
    | (apply RO.op; apply OP.buildSlice hS; rfl; rfl; (exact eqAuto); rfl; rfl; rfl; rfl; rfl; clear hS; intro b w1 hS)
    | (apply RO.op; apply OP.makeMap hS; rfl; clear hS; intro b w1 hS)
    | refine RO.yes rfl rfl ?_
    | refine RO.no rfl rfl rfl rfl ?_
    | refine RO.noUndef rfl rfl rfl ?_
    | refine RO.noNone rfl rfl rfl ?_
    | refine Run.cond_true rfl ?_
    | refine Run.cond_false rfl ?_
    | refine Run.skip ?_
    | refine Run.block ?_
    | refine Run.inBlock ?_
    | refine Run.exit rfl ?_
  all_goals
    refine Run.ret Try.func48 rfl (.tmp rfl .nil) ?_
    refine ⟨?_, hS⟩
    simp only [tup]
    congr 1
    first
      | rw [hn.1 hc]
      | (cases h : xs.any p with
        | true => exact absurd (hn.2 h) hc
        | false => rfl)
end Go.Proofs.Ythejfodjielahaa
