/-
  Which node may be: term.numbered, term.parts, (*Arena).right.
-/
import Derived.Test.YthejfodjielahaaCmp
import Derived.Test.YthejfodjielahaaNodes
namespace Go.Proofs.Ythejfodjielahaa
set_option maxRecDepth 8000
set_option linter.unusedSimpArgs false
set_option linter.unusedVariables false
open Go Go.RowKit

section
variable {we w : World} {ρ : List (Nat × Obj)} {σ F : List HP} {p lim : Nat} {L : List Nd}

theorem compare_calls {x y : Int} (hS : St we ρ (Arena p lim L :: F) w) :
    Cl Try.prog 47 [.pointer (some ⟨p, 0, none⟩), .int .i64 x, .int .i64 y] w fun v w' => v = .int .i64 (cmp L x y) ∧ St we ρ (Arena p lim L :: F) w' := by
  obtain ⟨g, hS⟩ := arena_good hS
  have h1 := g.wf.pos
  exact compare_any L.length h1 (fun h => (has_iff.1 h).2) (fun h => (has_iff.1 h).2) hS

theorem numbered_calls {n : Nd} (hS : St we ρ σ w) : Cl Try.prog 45 [ndV n] w fun v w' => v = .bool (numbered n) ∧ St we ρ σ w' := by
  refine Run.calls1 (n := 22) Try.func45 rfl rfl rfl ?_
  repeat' first
    | refine Run.seq ?_
    | refine Run.region ?_
    | (refine RO.split ?_ ?_ <;> intro hc <;> try (first | (exfalso; omega) | exact absurd rfl hc | exact Bool.noConfusion hc))
    | refine RO.nil ?_
    | refine RO.still (by exact Still.any) hS rfl ?_
    | (apply RO.op; apply OP.box hS; rfl; rfl; rfl; clear hS; intro b w1 hS)
    | (apply RO.op; apply OP.alloc hS; rfl; rfl; rfl; clear hS; intro b w1 hS)
    | (apply RO.op; apply OP.store hS; rfl; rfl; rfl; rfl; rfl; (focus ((repeat (first | apply Has.head | apply Take.head | apply Put.head | apply Has.tail | apply Take.tail | apply Put.tail)); done)); rfl; rfl; clear hS; intro w1 hS)
    | (apply RO.op; apply OP.buildSlice hS; rfl; rfl; (exact eqAuto); rfl; rfl; rfl; rfl; rfl; clear hS; intro b w1 hS)
    | (apply RO.op; apply OP.makeMap hS; rfl; clear hS; intro b w1 hS)
    | refine RO.yes rfl rfl ?_
    | refine RO.no rfl rfl rfl rfl ?_
    | refine RO.noUndef rfl rfl rfl ?_
    | refine RO.noNone rfl rfl rfl ?_
    | refine Run.cond_true rfl ?_
    | refine Run.cond_false rfl ?_
    | refine Run.skip ?_
    | refine Run.block ?_
    | refine Run.inBlock ?_
    | refine Run.exit rfl ?_
  all_goals
    refine Run.ret Try.func45 rfl (.tmp rfl .nil) ?_
    refine ⟨?_, hS.sublist (by (repeat (first | exact List.Sublist.refl _ | refine .cons_cons _ ?_ | refine .cons _ ?_)))⟩
    simp only [tup, numbered]
    congr 1
    first
      | (simp_all; done)
      | (simp_all; omega)

def partsL : List Value := [.int .i64 0, .int .i64 0, .int .i64 1, .int .i64 2, .int .i64 2, .int .i64 2, .int .i64 2, .int .i64 3, .int .i64 2, .int .i64 0]
theorem parts_calls (hS : St we ρ σ w) : Cl Try.prog 46 [] w fun v w' => v = .agg partsL.toArray ∧ St we ρ σ w' := by
  refine Run.calls0 (n := 2) Try.func46 rfl rfl ?_
  repeat' first
    | refine Run.seq ?_
    | refine Run.region ?_
    | (refine RO.split ?_ ?_ <;> intro hc <;> try (first | (exfalso; omega) | exact absurd rfl hc | exact Bool.noConfusion hc))
    | refine RO.nil ?_
    | refine RO.still (by exact Still.any) hS rfl ?_
    | (apply RO.op; apply OP.box hS; rfl; rfl; rfl; clear hS; intro b w1 hS)
    | (apply RO.op; apply OP.alloc hS; rfl; rfl; rfl; clear hS; intro b w1 hS)
    | (apply RO.op; apply OP.store hS; rfl; rfl; rfl; rfl; rfl; (focus ((repeat (first | apply Has.head | apply Take.head | apply Put.head | apply Has.tail | apply Take.tail | apply Put.tail)); done)); rfl; rfl; clear hS; intro w1 hS)
    | (apply RO.op; apply OP.buildSlice hS; rfl; rfl; (exact eqAuto); rfl; rfl; rfl; rfl; rfl; clear hS; intro b w1 hS)
    | (apply RO.op; apply OP.makeMap hS; rfl; clear hS; intro b w1 hS)
    | refine RO.yes rfl rfl ?_
    | refine RO.no rfl rfl rfl rfl ?_
    | refine RO.noUndef rfl rfl rfl ?_
    | refine RO.noNone rfl rfl rfl ?_
    | refine Run.cond_true rfl ?_
    | refine Run.cond_false rfl ?_
    | refine Run.skip ?_
    | refine Run.block ?_
    | refine Run.inBlock ?_
    | refine Run.exit rfl ?_
  refine Run.ret Try.func46 rfl (.cell rfl (by first | exact run_loadAgg rfl rfl (hS.rd (by exact Rd.any)) (by rfl) (by rfl) | exact run_loadScalar rfl (cell_of (hS.rd (by exact Rd.any)) (by rfl))) .nil) ?_
  exact ⟨rfl, hS.sublist (by (repeat (first | exact List.Sublist.refl _ | refine .cons_cons _ ?_ | refine .cons _ ?_)))⟩
theorem parts_get {k : Int} (h0 : 0 ≤ k) (h9 : k ≤ 9) : partsL[k.toNat]? = some (.int .i64 (many k)) := by
  have : k = 0 ∨ k = 1 ∨ k = 2 ∨ k = 3 ∨ k = 4 ∨ k = 5 ∨ k = 6 ∨ k = 7 ∨ k = 8 ∨ k = 9 := by omega
  rcases this with rfl | rfl | rfl | rfl | rfl | rfl | rfl | rfl | rfl | rfl <;> rfl

theorem right_no {n : Nd} (h : n.k < 0 ∨ 9 < n.k ∨ numbered n = false ∨ partOk L (many n.k) 0 n.a = false ∨ partOk L (many n.k) 1 n.b = false ∨ partOk L (many n.k) 2 n.c = false) : right L n = false := by
  unfold right
  rcases h with h | h | h | h | h | h
  · rw [decide_eq_false (show ¬ 0 ≤ n.k by omega)]; simp
  · rw [decide_eq_false (show ¬ n.k ≤ 9 by omega)]; simp
  all_goals simp [h]
theorem right_yes {n : Nd} (h0 : 0 ≤ n.k) (h9 : n.k ≤ 9) (hn : numbered n = true) (ha : partOk L (many n.k) 0 n.a = true) (hb : partOk L (many n.k) 1 n.b = true) (hc : partOk L (many n.k) 2 n.c = true) :
    right L n = if n.k = 3 then decide (cmp L n.a n.b ≤ 0) else if n.k = 4 then decide ((nd L n.b).k ≠ 2) else true := by
  unfold right
  simp [h0, h9, hn, ha, hb, hc]
theorem part_yes {m j x : Int} (h1 : j < m) (h2 : has L x = true) : partOk L m j x = true := by simp [partOk, h1, h2]
theorem part_no {m j x : Int} (h1 : j < m) (h2 : has L x = false) : partOk L m j x = false := by simp [partOk, h1, h2]
theorem part_zero {m j x : Int} (h1 : m ≤ j) (h2 : x = 0) : partOk L m j x = true := by simp [partOk, show ¬ j < m by omega, h2]
theorem part_some {m j x : Int} (h1 : m ≤ j) (h2 : x ≠ 0) : partOk L m j x = false := by simp [partOk, show ¬ j < m by omega, h2]
theorem all_one {f : Int → Bool} {x : Int} {b : Bool} (h : [x].all f = b) : f x = b := by simpa using h

set_option maxHeartbeats 2000000 in
theorem right_calls {n : Nd} (hS : St we ρ (Arena p lim L :: F) w) :
    Cl Try.prog 29 [.pointer (some ⟨p, 0, none⟩), ndV n] w fun v w' => v = .bool (right L n) ∧ St we ρ (Arena p lim L :: F) w' := by
  refine Run.calls2 (n := 79) Try.func29 rfl rfl rfl ?_
  repeat' first
    | (apply RO.op; apply OP.callF; rfl; rfl; rfl; exact numbered_calls hS; clear hS; rintro v w1 ⟨rfl, hS⟩; refine RO.splitB ?_ ?_ <;> intro hb)
    | refine Run.seq ?_
    | refine Run.region ?_
    | (refine RO.split ?_ ?_ <;> intro hc <;> try (first | (exfalso; omega) | exact absurd rfl hc | exact Bool.noConfusion hc))
    | refine RO.nil ?_
    | refine RO.still (by exact Still.any) hS rfl ?_
    | (apply RO.op; apply OP.box hS; rfl; rfl; rfl; clear hS; intro b w1 hS)
    | (apply RO.op; apply OP.alloc hS; rfl; rfl; rfl; clear hS; intro b w1 hS)
    | (apply RO.op; apply OP.store hS; rfl; rfl; rfl; rfl; rfl; (focus ((repeat (first | apply Has.head | apply Take.head | apply Put.head | apply Has.tail | apply Take.tail | apply Put.tail)); done)); rfl; rfl; clear hS; intro w1 hS)
    | (apply RO.op; apply OP.buildSlice hS; rfl; rfl; (exact eqAuto); rfl; rfl; rfl; rfl; rfl; clear hS; intro b w1 hS)
    | (apply RO.op; apply OP.makeMap hS; rfl; clear hS; intro b w1 hS)
    | refine RO.yes rfl rfl ?_
    | refine RO.no rfl rfl rfl rfl ?_
    | refine RO.noUndef rfl rfl rfl ?_
    | refine RO.noNone rfl rfl rfl ?_
    | refine Run.cond_true rfl ?_
    | refine Run.cond_false rfl ?_
    | refine Run.skip ?_
    | refine Run.block ?_
    | refine Run.inBlock ?_
    | refine Run.exit rfl ?_
  all_goals first
    | (refine Run.ret Try.func29 rfl (.tmp rfl .nil) ?_
       refine ⟨?_, (hS.take (by focus ((repeat (first | apply Has.head | apply Take.head | apply Put.head | apply Has.tail | apply Take.tail | apply Put.tail)); done))).sublist (by (repeat (first | exact List.Sublist.refl _ | refine .cons_cons _ ?_ | refine .cons _ ?_)))⟩
       rw [right_no (by first | exact .inl (by assumption) | exact .inr (.inl (by assumption)) | exact .inr (.inr (.inl (by assumption))))]
       rfl)
    | skip
  have h0 : 0 ≤ n.k := by omega
  have h9 : n.k ≤ 9 := by omega
  refine Run.regionQ_of hS (by rfl) (by kernel_rfl) ?_
  clear hS
  repeat' first
    | (apply RQ.callF; rfl; rfl; rfl; exact fun w hS => parts_calls hS)
    | (refine RQ.still (by apply Still.index; rfl; rfl; rfl; rfl; (exact eqAuto); omega; omega; (first | (simp only [Int.toNat_natCast, Nat.mul_one, Nat.zero_add, Int.reduceToNat, Nat.reduceMul, Nat.reduceAdd, Nat.zero_mul]; exact rfl) | rfl); exact parts_get h0 h9) rfl ?_)
    | (refine RQ.split ?_ ?_ <;> intro hc <;> try (first | (exfalso; omega) | exact absurd rfl hc | exact Bool.noConfusion hc))
    | (refine RQ.nil ?_; (try clear hS); intro w1 hS)
    | refine RQ.still (by exact Still.any) rfl ?_
    | refine RQ.yes rfl rfl ?_
    | refine RQ.no rfl rfl rfl rfl ?_
    | refine RQ.noUndef rfl rfl rfl ?_
  have hm := many_le n.k
  have hm3 : n.k ≠ 3 ∨ many n.k = 2 := by by_cases h : n.k = 3 <;> simp [h, many]
  have hm4 : n.k ≠ 4 ∨ many n.k = 2 := by by_cases h : n.k = 4 <;> simp [h, many]
  repeat' first
    | (apply RO.op; apply OP.callF; rfl; rfl; rfl; exact has_calls (xs := [_]) (hS.take (by focus ((repeat (first | apply Has.head | apply Take.head | apply Put.head | apply Has.tail | apply Take.tail | apply Put.tail)); done))) (by exact Rd.any) ints1 len1; clear hS; rintro v w1 ⟨rfl, hS⟩; refine RO.splitB ?_ ?_ <;> (intro hb; replace hb := all_one hb))
    | (apply RO.op; apply OP.callF; rfl; rfl; rfl; exact compare_calls (hS.take (by focus ((repeat (first | apply Has.head | apply Take.head | apply Put.head | apply Has.tail | apply Take.tail | apply Put.tail)); done))); clear hS; rintro v w1 ⟨rfl, hS⟩)
    | refine Run.loop ?_
    | refine Run.inLoop ?_
    | refine Run.seq ?_
    | refine Run.region ?_
    | (refine RO.split ?_ ?_ <;> intro hc <;> try (first | (exfalso; omega) | exact absurd rfl hc | exact Bool.noConfusion hc))
    | refine RO.nil ?_
    | refine RO.still (by exact Still.any) hS rfl ?_
    | (apply RO.op; apply OP.box hS; rfl; rfl; rfl; clear hS; intro b w1 hS)
    | (apply RO.op; apply OP.alloc hS; rfl; rfl; rfl; clear hS; intro b w1 hS)
    | (apply RO.op; apply OP.store hS; rfl; rfl; rfl; rfl; rfl; (focus ((repeat (first | apply Has.head | apply Take.head | apply Put.head | apply Has.tail | apply Take.tail | apply Put.tail)); done)); rfl; rfl; clear hS; intro w1 hS)
    | (apply RO.op; apply OP.buildSlice hS; rfl; rfl; (exact eqAuto); rfl; rfl; rfl; rfl; rfl; clear hS; intro b w1 hS)
    | (apply RO.op; apply OP.makeMap hS; rfl; clear hS; intro b w1 hS)
    | refine RO.yes rfl rfl ?_
    | refine RO.no rfl rfl rfl rfl ?_
    | refine RO.noUndef rfl rfl rfl ?_
    | refine RO.noNone rfl rfl rfl ?_
    | refine Run.cond_true rfl ?_
    | refine Run.cond_false rfl ?_
    | refine Run.skip ?_
    | refine Run.block ?_
    | refine Run.inBlock ?_
    | refine Run.exit rfl ?_
  all_goals try (
    obtain ⟨r, m', cap, spare, g1, g2, g3, g4, hS⟩ := arena_open (hS.take (by focus ((repeat (first | apply Has.head | apply Take.head | apply Put.head | apply Has.tail | apply Take.tail | apply Put.tail)); done)))
    have hbb := has_iff.1 (show has L n.b = true by assumption)
    refine Run.regionQ_of hS (by rfl) (by kernel_rfl) ?_
    clear hS
    repeat' first
      | (refine RQ.split ?_ ?_ <;> intro hc <;> try (first | (exfalso; omega) | exact absurd rfl hc | exact Bool.noConfusion hc))
      | (refine RQ.nil ?_; (try clear hS); intro w1 hS)
      | refine RQ.still (by exact Still.any) rfl ?_
      | refine RQ.yes rfl rfl ?_
      | refine RQ.no rfl rfl rfl rfl ?_
      | refine RQ.noUndef rfl rfl rfl ?_
      | refine Run.seq ?_
      | refine Run.region ?_
      | (refine RO.split ?_ ?_ <;> intro hc <;> try (first | (exfalso; omega) | exact absurd rfl hc | exact Bool.noConfusion hc))
      | refine RO.nil ?_
      | refine RO.still (by exact Still.any) hS rfl ?_
      | (apply RO.op; apply OP.box hS; rfl; rfl; rfl; clear hS; intro b w1 hS)
      | (apply RO.op; apply OP.alloc hS; rfl; rfl; rfl; clear hS; intro b w1 hS)
      | (apply RO.op; apply OP.store hS; rfl; rfl; rfl; rfl; rfl; (focus ((repeat (first | apply Has.head | apply Take.head | apply Put.head | apply Has.tail | apply Take.tail | apply Put.tail)); done)); rfl; rfl; clear hS; intro w1 hS)
      | (apply RO.op; apply OP.buildSlice hS; rfl; rfl; (exact eqAuto); rfl; rfl; rfl; rfl; rfl; clear hS; intro b w1 hS)
      | (apply RO.op; apply OP.makeMap hS; rfl; clear hS; intro b w1 hS)
      | refine RO.yes rfl rfl ?_
      | refine RO.no rfl rfl rfl rfl ?_
      | refine RO.noUndef rfl rfl rfl ?_
      | refine RO.noNone rfl rfl rfl ?_
      | refine Run.cond_true rfl ?_
      | refine Run.cond_false rfl ?_
      | refine Run.skip ?_
      | refine Run.block ?_
      | refine Run.inBlock ?_
      | refine Run.exit rfl ?_
    all_goals replace hS := arena_shut g1 g2 g3 g4 hS)
  all_goals
    refine Run.ret Try.func29 rfl (.tmp rfl .nil) ?_
    refine ⟨?_, hS.picks (by focus ((repeat (first | apply Picks.all | apply Picks.nil | (refine Picks.cons (by repeat (first | apply Take.head | apply Take.tail)) ?_) | apply Picks.drop)); done))⟩
    simp only [tup]
    congr 1
    first
      | (rw [right_yes h0 h9 (by assumption) (by first | exact part_yes (by omega) (by assumption) | exact part_zero (by omega) (by omega)) (by first | exact part_yes (by omega) (by assumption) | exact part_zero (by omega) (by omega)) (by first | exact part_yes (by omega) (by assumption) | exact part_zero (by omega) (by omega))]
         by_cases q3 : n.k = 3
         · rw [if_pos q3]
           first | (exfalso; omega) | exact (decide_eq_true (by omega)).symm | exact (decide_eq_false (by omega)).symm
         · rw [if_neg q3]
           by_cases q4 : n.k = 4
           · rw [if_pos q4]
             first | (exfalso; omega) | exact (decide_eq_true (by omega)).symm | exact (decide_eq_false (by omega)).symm
           · first | (rw [if_neg q4]; done) | (exfalso; omega))
      | (rw [right_no (.inr (.inr (.inr (by first
          | exact .inl (part_no (by omega) (by assumption)) | exact .inl (part_some (by omega) (by omega))
          | exact .inr (.inl (part_no (by omega) (by assumption))) | exact .inr (.inl (part_some (by omega) (by omega)))
          | exact .inr (.inr (part_no (by omega) (by assumption))) | exact .inr (.inr (part_some (by omega) (by omega)))))))])
end
end Go.Proofs.Ythejfodjielahaa
