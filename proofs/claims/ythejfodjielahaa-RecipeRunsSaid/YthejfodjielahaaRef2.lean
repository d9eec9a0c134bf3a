/-
  The document's answer for the layer of terms: which node may be, making, sharing.
-/
import Derived.Test.YthejfodjielahaaRef
namespace Go.Proofs.Ythejfodjielahaa
set_option maxRecDepth 8000
set_option linter.unusedSimpArgs false
set_option linter.unusedVariables false
open Go Go.RowKit

theorem nodeT2 : NodeT 78 := ⟨⟨_, _, _, _, _, rfl, ⟨by decide, rfl, rfl⟩, ⟨by decide, rfl, rfl⟩, ⟨by decide, rfl, rfl⟩, ⟨by decide, rfl, rfl⟩, ⟨by decide, rfl, rfl⟩⟩, rfl, by kernel_rfl, by kernel_rfl⟩

section
variable {we w : World} {ρ : List (Nat × Obj)} {σ F : List HP} {lim r cap : Nat} {L : List Nd} {spare : List Value}

theorem refMany_in {k : Int} (h : 0 ≤ k ∧ k ≤ 9) (hS : St we ρ σ w) : Cl Try.prog 59 [.int .i64 k] w fun v w' => v = .int .i64 (many k) ∧ St we ρ σ w' := by
  have := refMany (k := k) hS
  rwa [if_pos h] at this
theorem refMany_out {k : Int} (h : ¬ (0 ≤ k ∧ k ≤ 9)) (hS : St we ρ σ w) : Cl Try.prog 59 [.int .i64 k] w fun v w' => v = .int .i64 (-1) ∧ St we ρ σ w' := by
  have := refMany (k := k) hS
  rwa [if_neg h] at this

/-- A node's part by its place. -/
def prt (n : Nd) (k : Int) : Int := if k = 0 then n.a else if k = 1 then n.b else n.c

theorem refPrt {n : Nd} {k : Int} (hS : St we ρ σ w) : Cl Try.prog 60 [ndV n, .int .i64 k] w fun v w' => v = .int .i64 (prt n k) ∧ St we ρ σ w' := refPart hS

theorem right_no_prt {n : Nd} {i : Nat} (hi : i < 3) (h : partOk L (many n.k) i (prt n i) = false) : right L n = false := by
  have : i = 0 ∨ i = 1 ∨ i = 2 := by omega
  rcases this with rfl | rfl | rfl
  · exact right_no (.inr (.inr (.inr (.inl h))))
  · exact right_no (.inr (.inr (.inr (.inr (.inl h)))))
  · exact right_no (.inr (.inr (.inr (.inr (.inr h)))))
theorem right_eq {n : Nd} (hk : 0 ≤ n.k ∧ n.k ≤ 9) (hp : ∀ j : Nat, j < 3 → partOk L (many n.k) j (prt n j) = true) :
    right L n = (numbered n && if n.k = 3 then decide (cmp L n.a n.b ≤ 0) else if n.k = 4 then decide ((nd L n.b).k ≠ 2) else true) := by
  have h0 : partOk L (many n.k) 0 n.a = true := hp 0 (by omega)
  have h1 : partOk L (many n.k) 1 n.b = true := hp 1 (by omega)
  have h2 : partOk L (many n.k) 2 n.c = true := hp 2 (by omega)
  unfold right
  simp [hk.1, hk.2, h0, h1, h2]
theorem has_four {n : Nd} (hp : ∀ j : Nat, j < 3 → partOk L (many n.k) j (prt n j) = true) (h4 : n.k = 4) : has L n.b = true := by
  have h1 : partOk L (many n.k) 1 n.b = true := hp 1 (by omega)
  rw [h4] at h1
  simpa [partOk, many] using h1

set_option maxHeartbeats 2000000 in
theorem refRight {n : Nd} (g : Good lim L) (hS : St we ρ σ w) (hr : Rd ρ σ r (.cells (flat L ++ spare).toArray 78 (0, 0))) :
    Cl Try.prog 51 [raV lim r L.length cap, ndV n] w fun v w' => v = .bool (right L n) ∧ St we ρ σ w' := by
  refine Run.calls2 (n := 97) Try.func51 rfl rfl rfl ?_
  by_cases hk : 0 ≤ n.k ∧ n.k ≤ 9
  rotate_left
  · repeat' first
      | (apply RO.op; apply OP.callF; rfl; rfl; rfl; exact refMany_out hk hS; clear hS; rintro v w1 ⟨rfl, hS⟩)
      | refine Run.seq ?_
      | refine Run.region ?_
      | (refine RO.split ?_ ?_ <;> intro hc <;> try (first | (exfalso; omega) | exact absurd rfl hc | exact Bool.noConfusion hc))
      | refine RO.nil ?_
      | refine RO.still (by exact Still.any) hS rfl ?_
      | (apply RO.op; apply OP.box hS; rfl; rfl; rfl; clear hS; intro b w1 hS)
      | (apply RO.op; apply OP.alloc hS; rfl; rfl; rfl; clear hS; intro b w1 hS)
      | (apply RO.op; apply OP.store hS; rfl; rfl; rfl; rfl; rfl; (focus ((repeat (first | apply Has.head | apply Take.head | apply Put.head | apply Has.tail | apply Take.tail | apply Put.tail)); done)); rfl; rfl; clear hS; intro w1 hS)
      | (apply RO.op; apply OP.buildSlice hS; rfl; rfl; (exact eqAuto); rfl; rfl; rfl; rfl; rfl; clear hS; intro b w1 hS)
      | (apply RO.op; apply OP.makeMap hS; rfl; clear hS; intro b w1 hS)
      | refine RO.yes rfl rfl ?_
      | refine RO.no rfl rfl rfl rfl ?_
      | refine RO.noUndef rfl rfl rfl ?_
      | refine RO.noNone rfl rfl rfl ?_
      | refine Run.cond_true rfl ?_
      | refine Run.cond_false rfl ?_
      | refine Run.skip ?_
      | refine Run.block ?_
      | refine Run.inBlock ?_
      | refine Run.exit rfl ?_
    refine Run.ret Try.func51 rfl (.tmp rfl .nil) ?_
    refine ⟨?_, hS.sublist (by (repeat (first | exact List.Sublist.refl _ | refine .cons_cons _ ?_ | refine .cons _ ?_)))⟩
    rw [right_no (by omega)]
    rfl
  have hm := many_le n.k
  repeat' first
    | (apply RO.op; apply OP.callF; rfl; rfl; rfl; exact refMany_in hk hS; clear hS; rintro v w1 ⟨rfl, hS⟩)
    | refine Run.seq ?_
    | refine Run.region ?_
    | (refine RO.split ?_ ?_ <;> intro hc <;> try (first | (exfalso; omega) | exact absurd rfl hc | exact Bool.noConfusion hc))
    | refine RO.nil ?_
    | refine RO.still (by exact Still.any) hS rfl ?_
    | (apply RO.op; apply OP.box hS; rfl; rfl; rfl; clear hS; intro b w1 hS)
    | (apply RO.op; apply OP.alloc hS; rfl; rfl; rfl; clear hS; intro b w1 hS)
    | (apply RO.op; apply OP.store hS; rfl; rfl; rfl; rfl; rfl; (focus ((repeat (first | apply Has.head | apply Take.head | apply Put.head | apply Has.tail | apply Take.tail | apply Put.tail)); done)); rfl; rfl; clear hS; intro w1 hS)
    | (apply RO.op; apply OP.buildSlice hS; rfl; rfl; (exact eqAuto); rfl; rfl; rfl; rfl; rfl; clear hS; intro b w1 hS)
    | (apply RO.op; apply OP.makeMap hS; rfl; clear hS; intro b w1 hS)
    | refine RO.yes rfl rfl ?_
    | refine RO.no rfl rfl rfl rfl ?_
    | refine RO.noUndef rfl rfl rfl ?_
    | refine RO.noNone rfl rfl rfl ?_
    | refine Run.cond_true rfl ?_
    | refine Run.cond_false rfl ?_
    | refine Run.skip ?_
    | refine Run.block ?_
    | refine Run.inBlock ?_
    | refine Run.exit rfl ?_
  rename_i ba _ _
  refine Run.while (fun i : Nat => [(0, raV lim r L.length cap), (1, ndV n), (2, .pointer (some ⟨ba, 0, none⟩)), (3, .pointer (some ⟨b, 0, none⟩)), (4, .bool false), (5, .int .i64 (many n.k)), (6, .int .i64 i)])
    (fun i w => i ≤ 3 ∧ (∀ j : Nat, j < i → partOk L (many n.k) j (prt n j) = true) ∧ St we ρ (Row b (ndL n) 78 :: Row ba [.int .i64 lim, .slice (some ⟨r, 0, none⟩) L.length cap] 29 :: σ) w) (fun i => 3 - i) 0 ⟨by omega, by omega, hS⟩ (by focus ((repeat (first | exact .nil | refine .cons rfl ?_)); done)) ?_
  clear hS
  rintro i w ⟨hi, hp, hS⟩ ih
  by_cases hlt : i < 3
  · repeat' first
      | (refine Run.regionQ_of hS (by rfl) (by kernel_rfl) ?_; clear hS)
      | (apply RQ.callF; rfl; rfl; rfl; exact fun w hS => refPrt hS)
      | (apply RQ.callF; rfl; rfl; rfl; (exact fun w hS => refHas hS); (refine RQ.splitB ?_ ?_ <;> intro hb))
      | (refine RQ.split ?_ ?_ <;> intro hc <;> try (first | (exfalso; omega) | exact absurd rfl hc | exact Bool.noConfusion hc))
      | (refine RQ.nil ?_; (try clear hS); intro w1 hS)
      | refine RQ.still (by exact Still.any) rfl ?_
      | refine RQ.yes rfl rfl ?_
      | refine RQ.no rfl rfl rfl rfl ?_
      | refine RQ.noUndef rfl rfl rfl ?_
      | refine Run.seq ?_
      | refine Run.region ?_
      | (refine RO.split ?_ ?_ <;> intro hc <;> try (first | (exfalso; omega) | exact absurd rfl hc | exact Bool.noConfusion hc))
      | refine RO.nil ?_
      | refine RO.still (by exact Still.any) hS rfl ?_
      | (apply RO.op; apply OP.box hS; rfl; rfl; rfl; clear hS; intro b w1 hS)
      | (apply RO.op; apply OP.alloc hS; rfl; rfl; rfl; clear hS; intro b w1 hS)
      | (apply RO.op; apply OP.store hS; rfl; rfl; rfl; rfl; rfl; (focus ((repeat (first | apply Has.head | apply Take.head | apply Put.head | apply Has.tail | apply Take.tail | apply Put.tail)); done)); rfl; rfl; clear hS; intro w1 hS)
      | (apply RO.op; apply OP.buildSlice hS; rfl; rfl; (exact eqAuto); rfl; rfl; rfl; rfl; rfl; clear hS; intro b w1 hS)
      | (apply RO.op; apply OP.makeMap hS; rfl; clear hS; intro b w1 hS)
      | refine RO.yes rfl rfl ?_
      | refine RO.no rfl rfl rfl rfl ?_
      | refine RO.noUndef rfl rfl rfl ?_
      | refine RO.noNone rfl rfl rfl ?_
      | refine Run.cond_true rfl ?_
      | refine Run.cond_false rfl ?_
      | refine Run.skip ?_
      | refine Run.block ?_
      | refine Run.inBlock ?_
      | refine Run.exit rfl ?_
    all_goals first
      | (refine Run.weaken (e' := [(0, raV lim r L.length cap), (1, ndV n), (2, .pointer (some ⟨ba, 0, none⟩)), (3, .pointer (some ⟨b, 0, none⟩)), (4, .bool false), (5, .int .i64 (many n.k)), (6, .int .i64 ((i + 1 : Nat) : Int))]) (by focus ((repeat (first | exact .nil | refine .cons rfl ?_)); done)) (ih (i + 1) _ ⟨by omega, fun j hj => ?_, hS⟩ (by omega))
         by_cases hj' : j < i
         · exact hp j hj'
         · obtain rfl : j = i := by omega
           first | exact part_yes (by assumption) (by assumption) | exact part_zero (by omega) (by omega))
      | (refine Run.ret Try.func51 rfl (.tmp rfl .nil) ?_
         refine ⟨?_, hS.sublist (by (repeat (first | exact List.Sublist.refl _ | refine .cons_cons _ ?_ | refine .cons _ ?_)))⟩
         rw [right_no_prt hlt (by first | exact part_no (by assumption) (by assumption) | exact part_some (by omega) (by omega))]
         rfl)
  · obtain rfl : i = 3 := by omega
    have h4 : n.k = 4 → has L n.b = true := has_four hp
    have h4' : n.k ≠ 4 ∨ (0 ≤ n.b ∧ n.b < L.length) := by
      by_cases q : n.k = 4
      · exact .inr (has_iff.1 (h4 q))
      · exact .inl q
    repeat' first
      | (refine RO.still (by apply Still.load; rfl; rfl; (exact Rd.any); exact flat_get0 (h4 (by omega))) hS rfl ?_)
      | (apply RO.op; apply OP.callF; rfl; rfl; rfl; exact refCompare g hS (by exact Rd.any); clear hS; rintro v w1 ⟨rfl, hS⟩)
      | refine Run.seq ?_
      | refine Run.region ?_
      | (refine RO.split ?_ ?_ <;> intro hc <;> try (first | (exfalso; omega) | exact absurd rfl hc | exact Bool.noConfusion hc))
      | refine RO.nil ?_
      | refine RO.still (by exact Still.any) hS rfl ?_
      | (apply RO.op; apply OP.box hS; rfl; rfl; rfl; clear hS; intro b w1 hS)
      | (apply RO.op; apply OP.alloc hS; rfl; rfl; rfl; clear hS; intro b w1 hS)
      | (apply RO.op; apply OP.store hS; rfl; rfl; rfl; rfl; rfl; (focus ((repeat (first | apply Has.head | apply Take.head | apply Put.head | apply Has.tail | apply Take.tail | apply Put.tail)); done)); rfl; rfl; clear hS; intro w1 hS)
      | (apply RO.op; apply OP.buildSlice hS; rfl; rfl; (exact eqAuto); rfl; rfl; rfl; rfl; rfl; clear hS; intro b w1 hS)
      | (apply RO.op; apply OP.makeMap hS; rfl; clear hS; intro b w1 hS)
      | refine RO.yes rfl rfl ?_
      | refine RO.no rfl rfl rfl rfl ?_
      | refine RO.noUndef rfl rfl rfl ?_
      | refine RO.noNone rfl rfl rfl ?_
      | refine Run.cond_true rfl ?_
      | refine Run.cond_false rfl ?_
      | refine Run.skip ?_
      | refine Run.block ?_
      | refine Run.inBlock ?_
      | refine Run.exit rfl ?_
    all_goals
      refine Run.ret Try.func51 rfl (.tmp rfl .nil) ?_
      refine ⟨?_, hS.sublist (by (repeat (first | exact List.Sublist.refl _ | refine .cons_cons _ ?_ | refine .cons _ ?_)))⟩
      rw [right_eq hk hp]
      simp only [tup]
      congr 1
      clear hS hp ih hr
      first
        | (simp_all [numbered]; done)
        | (simp_all [numbered]; omega)
end
end Go.Proofs.Ythejfodjielahaa
