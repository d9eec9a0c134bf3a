/-
  What an arena does: Get, Len, Find, Mk, Share.
-/
import Derived.Test.YthejfodjielahaaRight
import Derived.Test.YthejfodjielahaaLib
namespace Go.Proofs.Ythejfodjielahaa
set_option maxRecDepth 8000
set_option linter.unusedSimpArgs false
set_option linter.unusedVariables false
open Go Go.RowKit

section
variable {we w : World} {ρ : List (Nat × Obj)} {σ F : List HP} {p lim : Nat} {L : List Nd}

theorem nd_none {x : Int} (g : Good lim L) (h : has L x = false) : nd L x = Nd.z := by
  by_cases h0 : x < 0
  · have : nd L x = nd L 0 := by unfold nd; congr 1; omega
    rw [this, g.wf.zero]
  · refine nd_out ?_
    by_cases h1 : x < L.length
    · exact absurd (has_iff.2 ⟨by omega, h1⟩) (by simp [h])
    · omega

theorem len_calls (hS : St we ρ (Arena p lim L :: F) w) :
    Cl Try.prog 19 [.pointer (some ⟨p, 0, none⟩)] w fun v w' => v = .int .i64 L.length ∧ St we ρ (Arena p lim L :: F) w' := by
  obtain ⟨r, m, cap, spare, g1, g2, g3, g4, hS⟩ := arena_open hS
  refine Run.calls1 (n := 8) Try.func19 rfl rfl rfl ?_
  repeat' first
    | refine Run.seq ?_
    | refine Run.region ?_
    | (refine RO.split ?_ ?_ <;> intro hc <;> try (first | (exfalso; omega) | exact absurd rfl hc | exact Bool.noConfusion hc))
    | refine RO.nil ?_
    | refine RO.still (by exact Still.any) hS rfl ?_
    | (apply RO.op; apply OP.box hS; rfl; rfl; rfl; clear hS; intro b w1 hS)
    | (apply RO.op; apply OP.alloc hS; rfl; rfl; rfl; clear hS; intro b w1 hS)
    | (apply RO.op; apply OP.store hS; rfl; rfl; rfl; rfl; rfl; (focus ((repeat (first | apply Has.head | apply Take.head | apply Put.head | apply Has.tail | apply Take.tail | apply Put.tail)); done)); rfl; rfl; clear hS; intro w1 hS)
    | (apply RO.op; apply OP.buildSlice hS; rfl; rfl; (exact eqAuto); rfl; rfl; rfl; rfl; rfl; clear hS; intro b w1 hS)
    | (apply RO.op; apply OP.makeMap hS; rfl; clear hS; intro b w1 hS)
    | refine RO.yes rfl rfl ?_
    | refine RO.no rfl rfl rfl rfl ?_
    | refine RO.noUndef rfl rfl rfl ?_
    | refine RO.noNone rfl rfl rfl ?_
    | refine Run.cond_true rfl ?_
    | refine Run.cond_false rfl ?_
    | refine Run.skip ?_
    | refine Run.block ?_
    | refine Run.inBlock ?_
    | refine Run.exit rfl ?_
  refine Run.ret Try.func19 rfl (.tmp rfl .nil) ?_
  exact ⟨rfl, arena_shut g1 g2 g3 g4 hS⟩

theorem get_calls {x : Int} (hS : St we ρ (Arena p lim L :: F) w) :
    Cl Try.prog 22 [.pointer (some ⟨p, 0, none⟩), .int .i64 x] w fun v w' => v = .tuple #[ndV (nd L x), .bool (has L x)] ∧ St we ρ (Arena p lim L :: F) w' := by
  obtain ⟨g, hS⟩ := arena_good hS
  refine Run.calls2 (n := 19) Try.func22 rfl rfl rfl ?_
  repeat' first
    | (apply RO.op; apply OP.callF; rfl; rfl; rfl; exact has_calls (xs := [_]) (hS.take (by focus ((repeat (first | apply Has.head | apply Take.head | apply Put.head | apply Has.tail | apply Take.tail | apply Put.tail)); done))) (by exact Rd.any) ints1 len1; clear hS; rintro v w1 ⟨rfl, hS⟩; refine RO.splitB ?_ ?_ <;> (intro hb; replace hb := all_one hb))
    | refine Run.seq ?_
    | refine Run.region ?_
    | (refine RO.split ?_ ?_ <;> intro hc <;> try (first | (exfalso; omega) | exact absurd rfl hc | exact Bool.noConfusion hc))
    | refine RO.nil ?_
    | refine RO.still (by exact Still.any) hS rfl ?_
    | (apply RO.op; apply OP.box hS; rfl; rfl; rfl; clear hS; intro b w1 hS)
    | (apply RO.op; apply OP.alloc hS; rfl; rfl; rfl; clear hS; intro b w1 hS)
    | (apply RO.op; apply OP.store hS; rfl; rfl; rfl; rfl; rfl; (focus ((repeat (first | apply Has.head | apply Take.head | apply Put.head | apply Has.tail | apply Take.tail | apply Put.tail)); done)); rfl; rfl; clear hS; intro w1 hS)
    | (apply RO.op; apply OP.buildSlice hS; rfl; rfl; (exact eqAuto); rfl; rfl; rfl; rfl; rfl; clear hS; intro b w1 hS)
    | (apply RO.op; apply OP.makeMap hS; rfl; clear hS; intro b w1 hS)
    | refine RO.yes rfl rfl ?_
    | refine RO.no rfl rfl rfl rfl ?_
    | refine RO.noUndef rfl rfl rfl ?_
    | refine RO.noNone rfl rfl rfl ?_
    | refine Run.cond_true rfl ?_
    | refine Run.cond_false rfl ?_
    | refine Run.skip ?_
    | refine Run.block ?_
    | refine Run.inBlock ?_
    | refine Run.exit rfl ?_
  · have hb' := has_iff.1 hb
    obtain ⟨r, m, cap, spare, g1, g2, g3, g4, hS⟩ := arena_open (hS.take (by focus ((repeat (first | apply Has.head | apply Take.head | apply Put.head | apply Has.tail | apply Take.tail | apply Put.tail)); done)))
    repeat' first
      | refine Run.seq ?_
      | refine Run.region ?_
      | (refine RO.split ?_ ?_ <;> intro hc <;> try (first | (exfalso; omega) | exact absurd rfl hc | exact Bool.noConfusion hc))
      | refine RO.nil ?_
      | refine RO.still (by exact Still.any) hS rfl ?_
      | (apply RO.op; apply OP.box hS; rfl; rfl; rfl; clear hS; intro b w1 hS)
      | (apply RO.op; apply OP.alloc hS; rfl; rfl; rfl; clear hS; intro b w1 hS)
      | (apply RO.op; apply OP.store hS; rfl; rfl; rfl; rfl; rfl; (focus ((repeat (first | apply Has.head | apply Take.head | apply Put.head | apply Has.tail | apply Take.tail | apply Put.tail)); done)); rfl; rfl; clear hS; intro w1 hS)
      | (apply RO.op; apply OP.buildSlice hS; rfl; rfl; (exact eqAuto); rfl; rfl; rfl; rfl; rfl; clear hS; intro b w1 hS)
      | (apply RO.op; apply OP.makeMap hS; rfl; clear hS; intro b w1 hS)
      | refine RO.yes rfl rfl ?_
      | refine RO.no rfl rfl rfl rfl ?_
      | refine RO.noUndef rfl rfl rfl ?_
      | refine RO.noNone rfl rfl rfl ?_
      | refine Run.cond_true rfl ?_
      | refine Run.cond_false rfl ?_
      | refine Run.skip ?_
      | refine Run.block ?_
      | refine Run.inBlock ?_
      | refine Run.exit rfl ?_
    refine Run.ret Try.func22 rfl (.cell rfl (by first | exact run_loadAgg rfl rfl (hS.rd (by exact Rd.any)) (by rfl) (by rfl) | exact run_loadScalar rfl (cell_of (hS.rd (by exact Rd.any)) (by rfl))) (.tmp rfl .nil)) ?_
    refine ⟨?_, arena_shut g1 g2 g3 g4 (hS.picks (by focus ((repeat (first | apply Picks.all | apply Picks.nil | (refine Picks.cons (by repeat (first | apply Take.head | apply Take.tail)) ?_) | apply Picks.drop)); done)))⟩
    simp only [tup, hb]
    rfl
  · refine Run.ret Try.func22 rfl (.cell rfl (by first | exact run_loadAgg rfl rfl (hS.rd (by exact Rd.any)) (by rfl) (by rfl) | exact run_loadScalar rfl (cell_of (hS.rd (by exact Rd.any)) (by rfl))) (.tmp rfl .nil)) ?_
    refine ⟨?_, hS.picks (by focus ((repeat (first | apply Picks.all | apply Picks.nil | (refine Picks.cons (by repeat (first | apply Take.head | apply Take.tail)) ?_) | apply Picks.drop)); done))⟩
    simp only [tup, hb, nd_none g hb]
    rfl

theorem find_calls {n : Nd} (hS : St we ρ (Arena p lim L :: F) w) :
    Cl Try.prog 41 [.pointer (some ⟨p, 0, none⟩), ndV n] w fun v w' => v = .tuple #[.int .i64 ((find L n).getD 0), .bool (find L n).isSome] ∧ St we ρ (Arena p lim L :: F) w' := by
  obtain ⟨r, m, cap, spare, g1, g2, g3, g4, hS⟩ := arena_open hS
  refine Run.calls2 (n := 19) Try.func41 rfl rfl rfl ?_
  repeat' first
    | refine Run.seq ?_
    | refine Run.region ?_
    | (refine RO.split ?_ ?_ <;> intro hc <;> try (first | (exfalso; omega) | exact absurd rfl hc | exact Bool.noConfusion hc))
    | refine RO.nil ?_
    | refine RO.still (by exact Still.any) hS rfl ?_
    | (apply RO.op; apply OP.box hS; rfl; rfl; rfl; clear hS; intro b w1 hS)
    | (apply RO.op; apply OP.alloc hS; rfl; rfl; rfl; clear hS; intro b w1 hS)
    | (apply RO.op; apply OP.store hS; rfl; rfl; rfl; rfl; rfl; (focus ((repeat (first | apply Has.head | apply Take.head | apply Put.head | apply Has.tail | apply Take.tail | apply Put.tail)); done)); rfl; rfl; clear hS; intro w1 hS)
    | (apply RO.op; apply OP.buildSlice hS; rfl; rfl; (exact eqAuto); rfl; rfl; rfl; rfl; rfl; clear hS; intro b w1 hS)
    | (apply RO.op; apply OP.makeMap hS; rfl; clear hS; intro b w1 hS)
    | refine RO.yes rfl rfl ?_
    | refine RO.no rfl rfl rfl rfl ?_
    | refine RO.noUndef rfl rfl rfl ?_
    | refine RO.noNone rfl rfl rfl ?_
    | refine Run.cond_true rfl ?_
    | refine Run.cond_false rfl ?_
    | refine Run.skip ?_
    | refine Run.block ?_
    | refine Run.inBlock ?_
    | refine Run.exit rfl ?_
  refine Run.regionQ_of hS (by rfl) (by kernel_rfl) ?_
  clear hS
  have hfound : found (.int .i64 0) ((find L n).map (fun r : Nat => (r, Value.int .i64 r))) = (.int .i64 ((find L n).getD 0), (find L n).isSome) := by cases find L n <;> rfl
  repeat' first
    | (refine RQ.still (by apply Still.lookupOk; rfl; rfl; rfl; rfl; (exact Rd.any); exact node_keys entries_keys; exact entries_found; exact hfound) rfl ?_)
    | (refine RQ.split ?_ ?_ <;> intro hc <;> try (first | (exfalso; omega) | exact absurd rfl hc | exact Bool.noConfusion hc))
    | (refine RQ.nil ?_; (try clear hS); intro w1 hS)
    | refine RQ.still (by exact Still.any) rfl ?_
    | refine RQ.yes rfl rfl ?_
    | refine RQ.no rfl rfl rfl rfl ?_
    | refine RQ.noUndef rfl rfl rfl ?_
  repeat' first
    | refine Run.seq ?_
    | refine Run.region ?_
    | (refine RO.split ?_ ?_ <;> intro hc <;> try (first | (exfalso; omega) | exact absurd rfl hc | exact Bool.noConfusion hc))
    | refine RO.nil ?_
    | refine RO.still (by exact Still.any) hS rfl ?_
    | (apply RO.op; apply OP.box hS; rfl; rfl; rfl; clear hS; intro b w1 hS)
    | (apply RO.op; apply OP.alloc hS; rfl; rfl; rfl; clear hS; intro b w1 hS)
    | (apply RO.op; apply OP.store hS; rfl; rfl; rfl; rfl; rfl; (focus ((repeat (first | apply Has.head | apply Take.head | apply Put.head | apply Has.tail | apply Take.tail | apply Put.tail)); done)); rfl; rfl; clear hS; intro w1 hS)
    | (apply RO.op; apply OP.buildSlice hS; rfl; rfl; (exact eqAuto); rfl; rfl; rfl; rfl; rfl; clear hS; intro b w1 hS)
    | (apply RO.op; apply OP.makeMap hS; rfl; clear hS; intro b w1 hS)
    | refine RO.yes rfl rfl ?_
    | refine RO.no rfl rfl rfl rfl ?_
    | refine RO.noUndef rfl rfl rfl ?_
    | refine RO.noNone rfl rfl rfl ?_
    | refine Run.cond_true rfl ?_
    | refine Run.cond_false rfl ?_
    | refine Run.skip ?_
    | refine Run.block ?_
    | refine Run.inBlock ?_
    | refine Run.exit rfl ?_
  refine Run.ret Try.func41 rfl (.tmp rfl (.tmp rfl .nil)) ?_
  exact ⟨rfl, arena_shut g1 g2 g3 g4 (hS.picks (by focus ((repeat (first | apply Picks.all | apply Picks.nil | (refine Picks.cons (by repeat (first | apply Take.head | apply Take.tail)) ?_) | apply Picks.drop)); done)))⟩

theorem ndL_one {n : Nd} : ∀ u ∈ ndL n, one u = true := by intro u hu; simp [ndL] at hu; rcases hu with rfl | rfl | rfl | rfl | rfl <;> rfl

set_option maxHeartbeats 1000000 in
theorem mk_calls {n : Nd} (hS : St we ρ (Arena p lim L :: F) w) :
    Cl Try.prog 20 [.pointer (some ⟨p, 0, none⟩), ndV n] w fun v w' => v = .tuple #[.int .i64 (mk lim L n).2.1, .int .i64 (mk lim L n).2.2] ∧ St we ρ (Arena p lim (mk lim L n).1 :: F) w' := by
  obtain ⟨r, m, cap, spare, g1, g2, g3, g4, hS⟩ := arena_open hS
  refine Run.calls2 (n := 62) Try.func20 rfl rfl rfl ?_
  repeat' first
    | refine Run.seq ?_
    | refine Run.region ?_
    | (refine RO.split ?_ ?_ <;> intro hc <;> try (first | (exfalso; omega) | exact absurd rfl hc | exact Bool.noConfusion hc))
    | refine RO.nil ?_
    | refine RO.still (by exact Still.any) hS rfl ?_
    | (apply RO.op; apply OP.box hS; rfl; rfl; rfl; clear hS; intro b w1 hS)
    | (apply RO.op; apply OP.alloc hS; rfl; rfl; rfl; clear hS; intro b w1 hS)
    | (apply RO.op; apply OP.store hS; rfl; rfl; rfl; rfl; rfl; (focus ((repeat (first | apply Has.head | apply Take.head | apply Put.head | apply Has.tail | apply Take.tail | apply Put.tail)); done)); rfl; rfl; clear hS; intro w1 hS)
    | (apply RO.op; apply OP.buildSlice hS; rfl; rfl; (exact eqAuto); rfl; rfl; rfl; rfl; rfl; clear hS; intro b w1 hS)
    | (apply RO.op; apply OP.makeMap hS; rfl; clear hS; intro b w1 hS)
    | refine RO.yes rfl rfl ?_
    | refine RO.no rfl rfl rfl rfl ?_
    | refine RO.noUndef rfl rfl rfl ?_
    | refine RO.noNone rfl rfl rfl ?_
    | refine Run.cond_true rfl ?_
    | refine Run.cond_false rfl ?_
    | refine Run.skip ?_
    | refine Run.block ?_
    | refine Run.inBlock ?_
    | refine Run.exit rfl ?_
  refine Run.regionQ_of hS (by rfl) (by kernel_rfl) ?_
  clear hS
  have hfound : found (.int .i64 0) ((find L n).map (fun r : Nat => (r, Value.int .i64 r))) = (.int .i64 ((find L n).getD 0), (find L n).isSome) := by cases find L n <;> rfl
  repeat' first
    | (refine RQ.still (by apply Still.lookupOk; rfl; rfl; rfl; rfl; (exact Rd.any); exact node_keys entries_keys; exact entries_found; exact hfound) rfl ?_)
    | (refine RQ.split ?_ ?_ <;> intro hc <;> try (first | (exfalso; omega) | exact absurd rfl hc | exact Bool.noConfusion hc))
    | (refine RQ.nil ?_; (try clear hS); intro w1 hS)
    | refine RQ.still (by exact Still.any) rfl ?_
    | refine RQ.yes rfl rfl ?_
    | refine RQ.no rfl rfl rfl rfl ?_
    | refine RQ.noUndef rfl rfl rfl ?_
  replace hS := arena_shut g1 g2 g3 g4 (hS.picks (σ' := ArenaAt p lim L r m cap spare (Row b (ndL n) 57 :: F)) (by focus ((repeat (first | apply Picks.all | apply Picks.nil | (refine Picks.cons (by repeat (first | apply Take.head | apply Take.tail)) ?_) | apply Picks.drop)); done)))
  clear hfound g1 g2 g3 g4
  cases hf : find L n with
  | some i =>
    repeat' first
      | (apply RO.op; apply OP.callF; rfl; rfl; rfl; exact right_calls (hS.take (by focus ((repeat (first | apply Has.head | apply Take.head | apply Put.head | apply Has.tail | apply Take.tail | apply Put.tail)); done))); clear hS; rintro v w1 ⟨rfl, hS⟩; refine RO.splitB ?_ ?_ <;> intro hb)
      | refine Run.seq ?_
      | refine Run.region ?_
      | (refine RO.split ?_ ?_ <;> intro hc <;> try (first | (exfalso; omega) | exact absurd rfl hc | exact Bool.noConfusion hc))
      | refine RO.nil ?_
      | refine RO.still (by exact Still.any) hS rfl ?_
      | (apply RO.op; apply OP.box hS; rfl; rfl; rfl; clear hS; intro b w1 hS)
      | (apply RO.op; apply OP.alloc hS; rfl; rfl; rfl; clear hS; intro b w1 hS)
      | (apply RO.op; apply OP.store hS; rfl; rfl; rfl; rfl; rfl; (focus ((repeat (first | apply Has.head | apply Take.head | apply Put.head | apply Has.tail | apply Take.tail | apply Put.tail)); done)); rfl; rfl; clear hS; intro w1 hS)
      | (apply RO.op; apply OP.buildSlice hS; rfl; rfl; (exact eqAuto); rfl; rfl; rfl; rfl; rfl; clear hS; intro b w1 hS)
      | (apply RO.op; apply OP.makeMap hS; rfl; clear hS; intro b w1 hS)
      | refine RO.yes rfl rfl ?_
      | refine RO.no rfl rfl rfl rfl ?_
      | refine RO.noUndef rfl rfl rfl ?_
      | refine RO.noNone rfl rfl rfl ?_
      | refine Run.cond_true rfl ?_
      | refine Run.cond_false rfl ?_
      | refine Run.skip ?_
      | refine Run.block ?_
      | refine Run.inBlock ?_
      | refine Run.exit rfl ?_
    · have hmk : mk lim L n = (L, (i : Int), 0) := by simp [mk, hb, hf]
      refine Run.ret Try.func20 rfl (.tmp rfl (.tmp rfl .nil)) ?_
      rw [hmk]
      exact ⟨rfl, hS.picks (by focus ((repeat (first | apply Picks.all | apply Picks.nil | (refine Picks.cons (by repeat (first | apply Take.head | apply Take.tail)) ?_) | apply Picks.drop)); done))⟩
    · have hmk : mk lim L n = (L, 0, 1) := by simp [mk, hb]
      refine Run.ret Try.func20 rfl (.tmp rfl (.tmp rfl .nil)) ?_
      rw [hmk]
      exact ⟨rfl, hS.picks (by focus ((repeat (first | apply Picks.all | apply Picks.nil | (refine Picks.cons (by repeat (first | apply Take.head | apply Take.tail)) ?_) | apply Picks.drop)); done))⟩
  | none =>
    repeat' first
      | (apply RO.op; apply OP.callF; rfl; rfl; rfl; exact right_calls (hS.take (by focus ((repeat (first | apply Has.head | apply Take.head | apply Put.head | apply Has.tail | apply Take.tail | apply Put.tail)); done))); clear hS; rintro v w1 ⟨rfl, hS⟩; refine RO.splitB ?_ ?_ <;> intro hb)
      | refine Run.seq ?_
      | refine Run.region ?_
      | (refine RO.split ?_ ?_ <;> intro hc <;> try (first | (exfalso; omega) | exact absurd rfl hc | exact Bool.noConfusion hc))
      | refine RO.nil ?_
      | refine RO.still (by exact Still.any) hS rfl ?_
      | (apply RO.op; apply OP.box hS; rfl; rfl; rfl; clear hS; intro b w1 hS)
      | (apply RO.op; apply OP.alloc hS; rfl; rfl; rfl; clear hS; intro b w1 hS)
      | (apply RO.op; apply OP.store hS; rfl; rfl; rfl; rfl; rfl; (focus ((repeat (first | apply Has.head | apply Take.head | apply Put.head | apply Has.tail | apply Take.tail | apply Put.tail)); done)); rfl; rfl; clear hS; intro w1 hS)
      | (apply RO.op; apply OP.buildSlice hS; rfl; rfl; (exact eqAuto); rfl; rfl; rfl; rfl; rfl; clear hS; intro b w1 hS)
      | (apply RO.op; apply OP.makeMap hS; rfl; clear hS; intro b w1 hS)
      | refine RO.yes rfl rfl ?_
      | refine RO.no rfl rfl rfl rfl ?_
      | refine RO.noUndef rfl rfl rfl ?_
      | refine RO.noNone rfl rfl rfl ?_
      | refine Run.cond_true rfl ?_
      | refine Run.cond_false rfl ?_
      | refine Run.skip ?_
      | refine Run.block ?_
      | refine Run.inBlock ?_
      | refine Run.exit rfl ?_
    rotate_left
    · have hmk : mk lim L n = (L, 0, 1) := by simp [mk, hb]
      refine Run.ret Try.func20 rfl (.tmp rfl (.tmp rfl .nil)) ?_
      rw [hmk]
      exact ⟨rfl, hS.picks (by focus ((repeat (first | apply Picks.all | apply Picks.nil | (refine Picks.cons (by repeat (first | apply Take.head | apply Take.tail)) ?_) | apply Picks.drop)); done))⟩
    obtain ⟨r, m, cap, spare, g1, g2, g3, g4, hS⟩ := arena_open hS
    refine Run.regionQ_of hS (by rfl) (by kernel_rfl) ?_
    clear hS
    repeat' first
      | (refine RQ.split ?_ ?_ <;> intro hc <;> try (first | (exfalso; omega) | exact absurd rfl hc | exact Bool.noConfusion hc))
      | (refine RQ.nil ?_; (try clear hS); intro w1 hS)
      | refine RQ.still (by exact Still.any) rfl ?_
      | refine RQ.yes rfl rfl ?_
      | refine RQ.no rfl rfl rfl rfl ?_
      | refine RQ.noUndef rfl rfl rfl ?_
      | refine Run.seq ?_
      | refine Run.region ?_
      | (refine RO.split ?_ ?_ <;> intro hc <;> try (first | (exfalso; omega) | exact absurd rfl hc | exact Bool.noConfusion hc))
      | refine RO.nil ?_
      | refine RO.still (by exact Still.any) hS rfl ?_
      | (apply RO.op; apply OP.box hS; rfl; rfl; rfl; clear hS; intro b w1 hS)
      | (apply RO.op; apply OP.alloc hS; rfl; rfl; rfl; clear hS; intro b w1 hS)
      | (apply RO.op; apply OP.store hS; rfl; rfl; rfl; rfl; rfl; (focus ((repeat (first | apply Has.head | apply Take.head | apply Put.head | apply Has.tail | apply Take.tail | apply Put.tail)); done)); rfl; rfl; clear hS; intro w1 hS)
      | (apply RO.op; apply OP.buildSlice hS; rfl; rfl; (exact eqAuto); rfl; rfl; rfl; rfl; rfl; clear hS; intro b w1 hS)
      | (apply RO.op; apply OP.makeMap hS; rfl; clear hS; intro b w1 hS)
      | refine RO.yes rfl rfl ?_
      | refine RO.no rfl rfl rfl rfl ?_
      | refine RO.noUndef rfl rfl rfl ?_
      | refine RO.noNone rfl rfl rfl ?_
      | refine Run.cond_true rfl ?_
      | refine Run.cond_false rfl ?_
      | refine Run.skip ?_
      | refine Run.block ?_
      | refine Run.inBlock ?_
      | refine Run.exit rfl ?_
    · have hmk : mk lim L n = (L, 0, 3) := by simp [mk, hb, hf, show lim ≤ L.length by omega]
      refine Run.ret Try.func20 rfl (.tmp rfl (.tmp rfl .nil)) ?_
      rw [hmk]
      exact ⟨rfl, arena_shut g1 g2 g3 g4 (hS.picks (by focus ((repeat (first | apply Picks.all | apply Picks.nil | (refine Picks.cons (by repeat (first | apply Take.head | apply Take.tail)) ?_) | apply Picks.drop)); done)))⟩
    have hll : L.length < lim := by omega
    have hmk : mk lim L n = (L ++ [n], (L.length : Int), 0) := by simp [mk, hb, hf, show ¬ lim ≤ L.length by omega]
    rw [hmk]
    have hlim := g1.lim
    refine Run.regionH_of hS (.cons_cons _ (.cons_cons _ (.cons _ (List.Sublist.refl _)))) (by rfl) (by rfl) (by rfl) ?_
    clear hS
    intro w1 hS
    repeat' first
      | (apply RH.take (i := 0) (listed := #[false, false, false, false, false, false, false, false, false, false, false]) (listed' := #[true, false, false, false, false, false, false, false, false, false, false]); rfl; kernel_rfl; rfl; (apply Still.move; rfl); (first | exact hS | exact hS.tail | exact hS.sublist (by repeat (first | exact List.Sublist.refl _ | refine .cons_cons _ ?_ | refine .cons _ ?_))); rfl)
      | (apply RH.take (i := 1) (listed := #[true, false, false, false, false, false, false, false, false, false, false]) (listed' := #[true, true, false, false, false, false, false, false, false, false, false]); rfl; kernel_rfl; rfl; (first | (apply Still.nilCheck; rfl) | (apply Still.nilCheckF; rfl)); (first | exact hS | exact hS.tail | exact hS.sublist (by repeat (first | exact List.Sublist.refl _ | refine .cons_cons _ ?_ | refine .cons _ ?_))); rfl)
      | (apply RH.take (i := 2) (listed := #[true, true, false, false, false, false, false, false, false, false, false]) (listed' := #[true, true, true, false, false, false, false, false, false, false, false]); rfl; kernel_rfl; rfl; (apply Still.fieldAddr; rfl; (exact eqAuto)); (first | exact hS | exact hS.tail | exact hS.sublist (by repeat (first | exact List.Sublist.refl _ | refine .cons_cons _ ?_ | refine .cons _ ?_))); rfl)
      | (apply RH.take (i := 3) (listed := #[true, true, true, false, false, false, false, false, false, false, false]) (listed' := #[true, true, true, true, false, false, false, false, false, false, false]); rfl; kernel_rfl; rfl; (first | (apply Still.load; rfl; rfl; (exact Rd.any); (first | rfl | exact flat_get0 (by assumption) | exact flat_get1 (by assumption) | exact flat_get2 (by assumption) | exact flat_get3 (by assumption) | exact flat_get4 (by assumption))) | (apply Still.loadAgg; rfl; rfl; (exact eqAuto); (exact Rd.any); (first | exact flat_take (by assumption) | rfl); rfl)); (first | exact hS | exact hS.tail | exact hS.sublist (by repeat (first | exact List.Sublist.refl _ | refine .cons_cons _ ?_ | refine .cons _ ?_))); rfl)
      | (apply RH.take (i := 4) (listed := #[true, true, true, true, false, false, false, false, false, false, false]) (listed' := #[true, true, true, true, true, false, false, false, false, false, false]); rfl; kernel_rfl; rfl; (first | (apply Still.load; rfl; rfl; (exact Rd.any); (first | rfl | exact flat_get0 (by assumption) | exact flat_get1 (by assumption) | exact flat_get2 (by assumption) | exact flat_get3 (by assumption) | exact flat_get4 (by assumption))) | (apply Still.loadAgg; rfl; rfl; (exact eqAuto); (exact Rd.any); (first | exact flat_take (by assumption) | rfl); rfl)); (first | exact hS | exact hS.tail | exact hS.sublist (by repeat (first | exact List.Sublist.refl _ | refine .cons_cons _ ?_ | refine .cons _ ?_))); rfl)
      | (apply RH.take (i := 5) (listed := #[true, true, true, true, true, false, false, false, false, false, false]) (listed' := #[true, true, true, true, true, true, false, false, false, false, false]); rfl; kernel_rfl; rfl; (apply Still.move; rfl); (first | exact hS | exact hS.tail | exact hS.sublist (by repeat (first | exact List.Sublist.refl _ | refine .cons_cons _ ?_ | refine .cons _ ?_))); rfl)
      | (apply RH.take (i := 6) (listed := #[true, true, true, true, true, true, false, false, false, false, false]) (listed' := #[true, true, true, true, true, true, true, false, false, false, false]); rfl; kernel_rfl; rfl; (first | (apply Still.nilCheck; rfl) | (apply Still.nilCheckF; rfl)); (first | exact hS | exact hS.tail | exact hS.sublist (by repeat (first | exact List.Sublist.refl _ | refine .cons_cons _ ?_ | refine .cons _ ?_))); rfl)
      | (apply RH.take (i := 7) (listed := #[true, true, true, true, true, true, true, false, false, false, false]) (listed' := #[true, true, true, true, true, true, true, true, false, false, false]); rfl; kernel_rfl; rfl; (apply Still.fieldAddr; rfl; (exact eqAuto)); (first | exact hS | exact hS.tail | exact hS.sublist (by repeat (first | exact List.Sublist.refl _ | refine .cons_cons _ ?_ | refine .cons _ ?_))); rfl)
      | (apply RH.take (i := 8) (listed := #[true, true, true, true, true, true, true, true, false, false, false]) (listed' := #[true, true, true, true, true, true, true, true, true, false, false]); rfl; kernel_rfl; rfl; (first | (apply Still.load; rfl; rfl; (exact Rd.any); (first | rfl | exact flat_get0 (by assumption) | exact flat_get1 (by assumption) | exact flat_get2 (by assumption) | exact flat_get3 (by assumption) | exact flat_get4 (by assumption))) | (apply Still.loadAgg; rfl; rfl; (exact eqAuto); (exact Rd.any); (first | exact flat_take (by assumption) | rfl); rfl)); (first | exact hS | exact hS.tail | exact hS.sublist (by repeat (first | exact List.Sublist.refl _ | refine .cons_cons _ ?_ | refine .cons _ ?_))); rfl)
      | (apply RH.take (i := 9) (listed := #[true, true, true, true, true, true, true, true, true, false, false]) (listed' := #[true, true, true, true, true, true, true, true, true, true, false]); rfl; kernel_rfl; rfl; (exact Still.any); (first | exact hS | exact hS.tail | exact hS.sublist (by repeat (first | exact List.Sublist.refl _ | refine .cons_cons _ ?_ | refine .cons _ ?_))); rfl)
      | (apply RH.all1 (i := 10) (listed := #[true, true, true, true, true, true, true, true, true, true, false]); kernel_rfl)
      | (apply RI.op (i := 10) (listed := #[true, true, true, true, true, true, true, true, true, true, false]) (listed' := #[true, true, true, true, true, true, true, true, true, true, true]); rfl; rfl)
      | (apply RH.done (listed := #[true, true, true, true, true, true, true, true, true, true, true]); kernel_rfl)
      | (apply OP.mapUpdate hS; rfl; rfl; rfl; rfl; (focus ((repeat (first | apply Has.head | apply Take.head | apply Put.head | apply Has.tail | apply Take.tail | apply Put.tail)); done)); exact node_keys entries_keys; exact entries_bits; exact entries_put hf; clear hS; intro w1 hS; refine ⟨(by first | exact hS | exact hS.tail | exact hS.sublist (by repeat (first | exact List.Sublist.refl _ | refine .cons_cons _ ?_ | refine .cons _ ?_))), ?_⟩)
      | (refine RH.split ?_ ?_ <;> intro hc <;> try (first | (exfalso; omega) | exact absurd rfl hc | exact Bool.noConfusion hc))
      | (apply OP.box hS; rfl; rfl; rfl; clear hS; intro b w1 hS; refine ⟨(by first | exact hS | exact hS.tail | exact hS.sublist (by repeat (first | exact List.Sublist.refl _ | refine .cons_cons _ ?_ | refine .cons _ ?_))), ?_⟩)
      | (apply OP.alloc hS; rfl; rfl; rfl; clear hS; intro b w1 hS; refine ⟨(by first | exact hS | exact hS.tail | exact hS.sublist (by repeat (first | exact List.Sublist.refl _ | refine .cons_cons _ ?_ | refine .cons _ ?_))), ?_⟩)
      | (apply OP.store hS; rfl; rfl; rfl; rfl; rfl; (focus ((repeat (first | apply Has.head | apply Take.head | apply Put.head | apply Has.tail | apply Take.tail | apply Put.tail)); done)); rfl; rfl; clear hS; intro w1 hS; refine ⟨(by first | exact hS | exact hS.tail | exact hS.sublist (by repeat (first | exact List.Sublist.refl _ | refine .cons_cons _ ?_ | refine .cons _ ?_))), ?_⟩)
      | (apply OP.buildSlice hS; rfl; rfl; (exact eqAuto); rfl; rfl; rfl; rfl; rfl; clear hS; intro b w1 hS; refine ⟨(by first | exact hS | exact hS.tail | exact hS.sublist (by repeat (first | exact List.Sublist.refl _ | refine .cons_cons _ ?_ | refine .cons _ ?_))), ?_⟩)
      | (apply OP.makeMap hS; rfl; clear hS; intro b w1 hS; refine ⟨(by first | exact hS | exact hS.tail | exact hS.sublist (by repeat (first | exact List.Sublist.refl _ | refine .cons_cons _ ?_ | refine .cons _ ?_))), ?_⟩)
      | (refine OP.still (by exact Still.any) hS rfl ⟨(by first | exact hS | exact hS.tail | exact hS.sublist (by repeat (first | exact List.Sublist.refl _ | refine .cons_cons _ ?_ | refine .cons _ ?_))), ?_⟩)
    have hS : St we ρ (Vec 57 5 (.slice (some ⟨r, 0, none⟩) L.length cap) L.length (flat L) :: Row p [.int .i64 lim, .slice (some ⟨r, 0, none⟩) L.length cap, .map (some m)] 74 ::
        Blk m (.map (entriesL (L ++ [n])).toArray (L ++ [n]).length) :: Row b (ndL n) 57 :: F) w1 :=
      vec_shut (l := flat L ++ spare) (hS.picks (by focus ((repeat (first | apply Picks.all | apply Picks.nil | (refine Picks.cons (by repeat (first | apply Take.head | apply Take.tail)) ?_) | apply Picks.drop)); done))) g2 g3 (by rw [List.length_append, flat_length, g4]; omega) (by rw [Nat.mul_comm, ← flat_length]; exact List.take_left)
    repeat (refine Run.seq ?_)
    refine Run.regionH_of hS (.cons _ (.cons _ (List.Sublist.refl _))) (by rfl) (by rfl) (by rfl) ?_
    clear hS
    intro w1 hS
    repeat' first
      | (apply RH.take (i := 0) (listed := #[false, false, false, false, false, false, false, false, false, false, false]) (listed' := #[true, false, false, false, false, false, false, false, false, false, false]); rfl; kernel_rfl; rfl; (apply Still.move; rfl); (first | exact hS | exact hS.tail | exact hS.sublist (by repeat (first | exact List.Sublist.refl _ | refine .cons_cons _ ?_ | refine .cons _ ?_))); rfl)
      | (apply RH.take (i := 1) (listed := #[true, false, false, false, false, false, false, false, false, false, false]) (listed' := #[true, true, false, false, false, false, false, false, false, false, false]); rfl; kernel_rfl; rfl; (apply Still.move; rfl); (first | exact hS | exact hS.tail | exact hS.sublist (by repeat (first | exact List.Sublist.refl _ | refine .cons_cons _ ?_ | refine .cons _ ?_))); rfl)
      | (apply RH.take (i := 2) (listed := #[true, true, false, false, false, false, false, false, false, false, false]) (listed' := #[true, true, true, false, false, false, false, false, false, false, false]); rfl; kernel_rfl; rfl; (first | (apply Still.nilCheck; rfl) | (apply Still.nilCheckF; rfl)); (first | exact hS | exact hS.tail | exact hS.sublist (by repeat (first | exact List.Sublist.refl _ | refine .cons_cons _ ?_ | refine .cons _ ?_))); rfl)
      | (apply RH.take (i := 3) (listed := #[true, true, true, false, false, false, false, false, false, false, false]) (listed' := #[true, true, true, true, false, false, false, false, false, false, false]); rfl; kernel_rfl; rfl; (apply Still.fieldAddr; rfl; (exact eqAuto)); (first | exact hS | exact hS.tail | exact hS.sublist (by repeat (first | exact List.Sublist.refl _ | refine .cons_cons _ ?_ | refine .cons _ ?_))); rfl)
      | (apply RH.take (i := 5) (listed := #[true, true, true, true, false, false, false, false, false, false, false]) (listed' := #[true, true, true, true, false, true, false, false, false, false, false]); rfl; kernel_rfl; rfl; (first | (apply Still.load; rfl; rfl; (exact Rd.any); (first | rfl | exact flat_get0 (by assumption) | exact flat_get1 (by assumption) | exact flat_get2 (by assumption) | exact flat_get3 (by assumption) | exact flat_get4 (by assumption))) | (apply Still.loadAgg; rfl; rfl; (exact eqAuto); (exact Rd.any); (first | exact flat_take (by assumption) | rfl); rfl)); (first | exact hS | exact hS.tail | exact hS.sublist (by repeat (first | exact List.Sublist.refl _ | refine .cons_cons _ ?_ | refine .cons _ ?_))); rfl)
      | (apply RH.all2 (i1 := 4) (i2 := 6) (listed := #[true, true, true, true, false, true, false, false, false, false, false]); kernel_rfl)
      | (apply RI.op (i := 4) (listed := #[true, true, true, true, false, true, false, false, false, false, false]) (listed' := #[true, true, true, true, true, true, false, false, false, false, false]); rfl; rfl)
      | (apply RI.op (i := 6) (listed := #[true, true, true, true, false, true, false, false, false, false, false]) (listed' := #[true, true, true, true, false, true, true, false, false, false, false]); rfl; rfl)
      | (apply RH.all1 (i := 6) (listed := #[true, true, true, true, true, true, false, false, false, false, false]); kernel_rfl)
      | (apply RI.op (i := 6) (listed := #[true, true, true, true, true, true, false, false, false, false, false]) (listed' := #[true, true, true, true, true, true, true, false, false, false, false]); rfl; rfl)
      | (apply RH.all1 (i := 7) (listed := #[true, true, true, true, true, true, true, false, false, false, false]); kernel_rfl)
      | (apply RI.op (i := 7) (listed := #[true, true, true, true, true, true, true, false, false, false, false]) (listed' := #[true, true, true, true, true, true, true, true, false, false, false]); rfl; rfl)
      | (apply RH.take (i := 8) (listed := #[true, true, true, true, true, true, true, true, false, false, false]) (listed' := #[true, true, true, true, true, true, true, true, true, false, false]); rfl; kernel_rfl; rfl; (first | (apply Still.nilCheck; rfl) | (apply Still.nilCheckF; rfl)); (first | exact hS | exact hS.tail | exact hS.sublist (by repeat (first | exact List.Sublist.refl _ | refine .cons_cons _ ?_ | refine .cons _ ?_))); rfl)
      | (apply RH.take (i := 9) (listed := #[true, true, true, true, true, true, true, true, true, false, false]) (listed' := #[true, true, true, true, true, true, true, true, true, true, false]); rfl; kernel_rfl; rfl; (apply Still.fieldAddr; rfl; (exact eqAuto)); (first | exact hS | exact hS.tail | exact hS.sublist (by repeat (first | exact List.Sublist.refl _ | refine .cons_cons _ ?_ | refine .cons _ ?_))); rfl)
      | (apply RH.all1 (i := 10) (listed := #[true, true, true, true, true, true, true, true, true, true, false]); kernel_rfl)
      | (apply RI.op (i := 10) (listed := #[true, true, true, true, true, true, true, true, true, true, false]) (listed' := #[true, true, true, true, true, true, true, true, true, true, true]); rfl; rfl)
      | (apply RH.done (listed := #[true, true, true, true, true, true, true, true, true, true, true]); kernel_rfl)
      | (apply RH.all1 (i := 4) (listed := #[true, true, true, true, false, true, true, false, false, false, false]); kernel_rfl)
      | (apply RI.op (i := 4) (listed := #[true, true, true, true, false, true, true, false, false, false, false]) (listed' := #[true, true, true, true, true, true, true, false, false, false, false]); rfl; rfl)
      | (apply OP.append (size := 5) (bytes := 40) (k := 1) (news := ndL n) hS; rfl; rfl; rfl; rfl; rfl; rfl; rfl; rfl; exact (by omega); (focus ((repeat (first | apply Has.head | apply Take.head | apply Put.head | apply Has.tail | apply Take.tail | apply Put.tail)); done)); (exact Rd.any); rfl; rfl; exact ndL_one; (exact (by unfold maxLen; omega)); (exact (by omega)); rfl
         clear hS; intro v' w1 hS
         obtain ⟨-, ⟨-, hz, -⟩ | ⟨r', cap', spare', rfl, k1, k2, k3, hS⟩⟩ := vec_open hS
         · exact absurd hz (by omega)
         refine ⟨(by first | exact hS | exact hS.tail | exact hS.sublist (by repeat (first | exact List.Sublist.refl _ | refine .cons_cons _ ?_ | refine .cons _ ?_))), ?_⟩)
      | (refine RH.split ?_ ?_ <;> intro hc <;> try (first | (exfalso; omega) | exact absurd rfl hc | exact Bool.noConfusion hc))
      | (apply OP.box hS; rfl; rfl; rfl; clear hS; intro b w1 hS; refine ⟨(by first | exact hS | exact hS.tail | exact hS.sublist (by repeat (first | exact List.Sublist.refl _ | refine .cons_cons _ ?_ | refine .cons _ ?_))), ?_⟩)
      | (apply OP.alloc hS; rfl; rfl; rfl; clear hS; intro b w1 hS; refine ⟨(by first | exact hS | exact hS.tail | exact hS.sublist (by repeat (first | exact List.Sublist.refl _ | refine .cons_cons _ ?_ | refine .cons _ ?_))), ?_⟩)
      | (apply OP.store hS; rfl; rfl; rfl; rfl; rfl; (focus ((repeat (first | apply Has.head | apply Take.head | apply Put.head | apply Has.tail | apply Take.tail | apply Put.tail)); done)); rfl; rfl; clear hS; intro w1 hS; refine ⟨(by first | exact hS | exact hS.tail | exact hS.sublist (by repeat (first | exact List.Sublist.refl _ | refine .cons_cons _ ?_ | refine .cons _ ?_))), ?_⟩)
      | (apply OP.buildSlice hS; rfl; rfl; (exact eqAuto); rfl; rfl; rfl; rfl; rfl; clear hS; intro b w1 hS; refine ⟨(by first | exact hS | exact hS.tail | exact hS.sublist (by repeat (first | exact List.Sublist.refl _ | refine .cons_cons _ ?_ | refine .cons _ ?_))), ?_⟩)
      | (apply OP.makeMap hS; rfl; clear hS; intro b w1 hS; refine ⟨(by first | exact hS | exact hS.tail | exact hS.sublist (by repeat (first | exact List.Sublist.refl _ | refine .cons_cons _ ?_ | refine .cons _ ?_))), ?_⟩)
      | (refine OP.still (by exact Still.any) hS rfl ⟨(by first | exact hS | exact hS.tail | exact hS.sublist (by repeat (first | exact List.Sublist.refl _ | refine .cons_cons _ ?_ | refine .cons _ ?_))), ?_⟩)
    all_goals
      repeat' first
        | refine Run.seq ?_
        | refine Run.region ?_
        | (refine RO.split ?_ ?_ <;> intro hc <;> try (first | (exfalso; omega) | exact absurd rfl hc | exact Bool.noConfusion hc))
        | refine RO.nil ?_
        | refine RO.still (by exact Still.any) hS rfl ?_
        | (apply RO.op; apply OP.box hS; rfl; rfl; rfl; clear hS; intro b w1 hS)
        | (apply RO.op; apply OP.alloc hS; rfl; rfl; rfl; clear hS; intro b w1 hS)
        | (apply RO.op; apply OP.store hS; rfl; rfl; rfl; rfl; rfl; (focus ((repeat (first | apply Has.head | apply Take.head | apply Put.head | apply Has.tail | apply Take.tail | apply Put.tail)); done)); rfl; rfl; clear hS; intro w1 hS)
        | (apply RO.op; apply OP.buildSlice hS; rfl; rfl; (exact eqAuto); rfl; rfl; rfl; rfl; rfl; clear hS; intro b w1 hS)
        | (apply RO.op; apply OP.makeMap hS; rfl; clear hS; intro b w1 hS)
        | refine RO.yes rfl rfl ?_
        | refine RO.no rfl rfl rfl rfl ?_
        | refine RO.noUndef rfl rfl rfl ?_
        | refine RO.noNone rfl rfl rfl ?_
        | refine Run.cond_true rfl ?_
        | refine Run.cond_false rfl ?_
        | refine Run.skip ?_
        | refine Run.block ?_
        | refine Run.inBlock ?_
        | refine Run.exit rfl ?_
      refine Run.ret Try.func20 rfl (.tmp rfl (.tmp rfl .nil)) ?_
      have e1 : L.length + 1 = (L ++ [n]).length := by simp
      show _ ∧ St we ρ (Arena p lim (L ++ [n]) :: F) _
      refine ⟨?_, arena_shut (r := r') (m := m) (cap := cap') (spare := spare') (g1.snoc hb hf hll) (by rw [← e1]; exact k1) k2 (by rw [k3, e1]; omega) ?_⟩
      · simp [tup]
      · rw [e1, ← flat_snoc] at hS
        exact hS.picks (by focus ((repeat (first | apply Picks.all | apply Picks.nil | (refine Picks.cons (by repeat (first | apply Take.head | apply Take.tail)) ?_) | apply Picks.drop)); done))

theorem all_two {f : Int → Bool} {x y : Int} (h : [x, y].all f = true) : f x = true ∧ f y = true := by simpa using h
theorem not_two {f : Int → Bool} {x y : Int} (h : [x, y].all f = false) : ¬ (f x = true ∧ f y = true) := by
  intro ⟨h1, h2⟩; simp [h1, h2] at h

theorem share_calls {x y : Int} (hS : St we ρ (Arena p lim L :: F) w) :
    Cl Try.prog 52 [.pointer (some ⟨p, 0, none⟩), .int .i64 x, .int .i64 y] w fun v w' => v = .tuple #[.int .i64 (share lim L x y).2.1, .int .i64 (share lim L x y).2.2] ∧ St we ρ (Arena p lim (share lim L x y).1 :: F) w' := by
  refine Run.calls3 (n := 55) Try.func52 rfl rfl rfl ?_
  repeat' first
    | (apply RO.op; apply OP.callF; rfl; rfl; rfl; exact has_calls (xs := [_, _]) (hS.take (by focus ((repeat (first | apply Has.head | apply Take.head | apply Put.head | apply Has.tail | apply Take.tail | apply Put.tail)); done))) (by exact Rd.any) ints2 len2; clear hS; rintro v w1 ⟨rfl, hS⟩; refine RO.splitB ?_ ?_ <;> intro hb)
    | refine Run.seq ?_
    | refine Run.region ?_
    | (refine RO.split ?_ ?_ <;> intro hc <;> try (first | (exfalso; omega) | exact absurd rfl hc | exact Bool.noConfusion hc))
    | refine RO.nil ?_
    | refine RO.still (by exact Still.any) hS rfl ?_
    | (apply RO.op; apply OP.box hS; rfl; rfl; rfl; clear hS; intro b w1 hS)
    | (apply RO.op; apply OP.alloc hS; rfl; rfl; rfl; clear hS; intro b w1 hS)
    | (apply RO.op; apply OP.store hS; rfl; rfl; rfl; rfl; rfl; (focus ((repeat (first | apply Has.head | apply Take.head | apply Put.head | apply Has.tail | apply Take.tail | apply Put.tail)); done)); rfl; rfl; clear hS; intro w1 hS)
    | (apply RO.op; apply OP.buildSlice hS; rfl; rfl; (exact eqAuto); rfl; rfl; rfl; rfl; rfl; clear hS; intro b w1 hS)
    | (apply RO.op; apply OP.makeMap hS; rfl; clear hS; intro b w1 hS)
    | refine RO.yes rfl rfl ?_
    | refine RO.no rfl rfl rfl rfl ?_
    | refine RO.noUndef rfl rfl rfl ?_
    | refine RO.noNone rfl rfl rfl ?_
    | refine Run.cond_true rfl ?_
    | refine Run.cond_false rfl ?_
    | refine Run.skip ?_
    | refine Run.block ?_
    | refine Run.inBlock ?_
    | refine Run.exit rfl ?_
  rotate_left
  · have hsh : share lim L x y = (L, 0, 1) := by unfold share; rw [if_neg (not_two hb)]
    refine Run.ret Try.func52 rfl (.tmp rfl (.tmp rfl .nil)) ?_
    rw [hsh]
    exact ⟨rfl, hS.picks (by focus ((repeat (first | apply Picks.all | apply Picks.nil | (refine Picks.cons (by repeat (first | apply Take.head | apply Take.tail)) ?_) | apply Picks.drop)); done))⟩
  obtain ⟨hx, hy⟩ := all_two hb
  have hy' := has_iff.1 hy
  obtain ⟨r, m, cap, spare, g1, g2, g3, g4, hS⟩ := arena_open hS
  repeat' first
    | refine Run.seq ?_
    | refine Run.region ?_
    | (refine RO.split ?_ ?_ <;> intro hc <;> try (first | (exfalso; omega) | exact absurd rfl hc | exact Bool.noConfusion hc))
    | refine RO.nil ?_
    | refine RO.still (by exact Still.any) hS rfl ?_
    | (apply RO.op; apply OP.box hS; rfl; rfl; rfl; clear hS; intro b w1 hS)
    | (apply RO.op; apply OP.alloc hS; rfl; rfl; rfl; clear hS; intro b w1 hS)
    | (apply RO.op; apply OP.store hS; rfl; rfl; rfl; rfl; rfl; (focus ((repeat (first | apply Has.head | apply Take.head | apply Put.head | apply Has.tail | apply Take.tail | apply Put.tail)); done)); rfl; rfl; clear hS; intro w1 hS)
    | (apply RO.op; apply OP.buildSlice hS; rfl; rfl; (exact eqAuto); rfl; rfl; rfl; rfl; rfl; clear hS; intro b w1 hS)
    | (apply RO.op; apply OP.makeMap hS; rfl; clear hS; intro b w1 hS)
    | refine RO.yes rfl rfl ?_
    | refine RO.no rfl rfl rfl rfl ?_
    | refine RO.noUndef rfl rfl rfl ?_
    | refine RO.noNone rfl rfl rfl ?_
    | refine Run.cond_true rfl ?_
    | refine Run.cond_false rfl ?_
    | refine Run.skip ?_
    | refine Run.block ?_
    | refine Run.inBlock ?_
    | refine Run.exit rfl ?_
  all_goals replace hS := arena_shut g1 g2 g3 g4 hS
  · have hsh : share lim L x y = mk lim L ⟨4, 0, x, y, 0⟩ := by unfold share; rw [if_pos ⟨hx, hy⟩, if_pos (by assumption)]
    repeat' first
      | (apply RO.op; apply OP.callF; rfl; rfl; rfl; exact mk_calls (n := ⟨4, 0, x, y, 0⟩) (hS.take (by focus ((repeat (first | apply Has.head | apply Take.head | apply Put.head | apply Has.tail | apply Take.tail | apply Put.tail)); done))); clear hS; rintro v w1 ⟨rfl, hS⟩)
      | refine Run.seq ?_
      | refine Run.region ?_
      | (refine RO.split ?_ ?_ <;> intro hc <;> try (first | (exfalso; omega) | exact absurd rfl hc | exact Bool.noConfusion hc))
      | refine RO.nil ?_
      | refine RO.still (by exact Still.any) hS rfl ?_
      | (apply RO.op; apply OP.box hS; rfl; rfl; rfl; clear hS; intro b w1 hS)
      | (apply RO.op; apply OP.alloc hS; rfl; rfl; rfl; clear hS; intro b w1 hS)
      | (apply RO.op; apply OP.store hS; rfl; rfl; rfl; rfl; rfl; (focus ((repeat (first | apply Has.head | apply Take.head | apply Put.head | apply Has.tail | apply Take.tail | apply Put.tail)); done)); rfl; rfl; clear hS; intro w1 hS)
      | (apply RO.op; apply OP.buildSlice hS; rfl; rfl; (exact eqAuto); rfl; rfl; rfl; rfl; rfl; clear hS; intro b w1 hS)
      | (apply RO.op; apply OP.makeMap hS; rfl; clear hS; intro b w1 hS)
      | refine RO.yes rfl rfl ?_
      | refine RO.no rfl rfl rfl rfl ?_
      | refine RO.noUndef rfl rfl rfl ?_
      | refine RO.noNone rfl rfl rfl ?_
      | refine Run.cond_true rfl ?_
      | refine Run.cond_false rfl ?_
      | refine Run.skip ?_
      | refine Run.block ?_
      | refine Run.inBlock ?_
      | refine Run.exit rfl ?_
    refine Run.ret Try.func52 rfl (.tmp rfl (.tmp rfl .nil)) ?_
    rw [hsh]
    exact ⟨rfl, hS.picks (by focus ((repeat (first | apply Picks.all | apply Picks.nil | (refine Picks.cons (by repeat (first | apply Take.head | apply Take.tail)) ?_) | apply Picks.drop)); done))⟩
  · repeat' first
      | (apply RO.op; apply OP.callF; rfl; rfl; rfl; exact compare_calls (hS.take (by focus ((repeat (first | apply Has.head | apply Take.head | apply Put.head | apply Has.tail | apply Take.tail | apply Put.tail)); done))); clear hS; rintro v w1 ⟨rfl, hS⟩)
      | (apply RO.op; apply OP.callF; rfl; rfl; rfl; exact mk_calls (n := ⟨3, 0, x, (nd L y).a, 0⟩) (hS.take (by focus ((repeat (first | apply Has.head | apply Take.head | apply Put.head | apply Has.tail | apply Take.tail | apply Put.tail)); done))); clear hS; rintro v w1 ⟨rfl, hS⟩)
      | (apply RO.op; apply OP.callF; rfl; rfl; rfl; exact mk_calls (n := ⟨3, 0, (nd L y).a, x, 0⟩) (hS.take (by focus ((repeat (first | apply Has.head | apply Take.head | apply Put.head | apply Has.tail | apply Take.tail | apply Put.tail)); done))); clear hS; rintro v w1 ⟨rfl, hS⟩)
      | refine Run.seq ?_
      | refine Run.region ?_
      | (refine RO.split ?_ ?_ <;> intro hc <;> try (first | (exfalso; omega) | exact absurd rfl hc | exact Bool.noConfusion hc))
      | refine RO.nil ?_
      | refine RO.still (by exact Still.any) hS rfl ?_
      | (apply RO.op; apply OP.box hS; rfl; rfl; rfl; clear hS; intro b w1 hS)
      | (apply RO.op; apply OP.alloc hS; rfl; rfl; rfl; clear hS; intro b w1 hS)
      | (apply RO.op; apply OP.store hS; rfl; rfl; rfl; rfl; rfl; (focus ((repeat (first | apply Has.head | apply Take.head | apply Put.head | apply Has.tail | apply Take.tail | apply Put.tail)); done)); rfl; rfl; clear hS; intro w1 hS)
      | (apply RO.op; apply OP.buildSlice hS; rfl; rfl; (exact eqAuto); rfl; rfl; rfl; rfl; rfl; clear hS; intro b w1 hS)
      | (apply RO.op; apply OP.makeMap hS; rfl; clear hS; intro b w1 hS)
      | refine RO.yes rfl rfl ?_
      | refine RO.no rfl rfl rfl rfl ?_
      | refine RO.noUndef rfl rfl rfl ?_
      | refine RO.noNone rfl rfl rfl ?_
      | refine Run.cond_true rfl ?_
      | refine Run.cond_false rfl ?_
      | refine Run.skip ?_
      | refine Run.block ?_
      | refine Run.inBlock ?_
      | refine Run.exit rfl ?_
    · have hsh : share lim L x y = mk lim L ⟨3, 0, (nd L y).a, x, 0⟩ := by
        unfold share; rw [if_pos ⟨hx, hy⟩, if_neg (by omega), if_pos (by omega)]
      refine Run.ret Try.func52 rfl (.tmp rfl (.tmp rfl .nil)) ?_
      rw [hsh]
      exact ⟨rfl, hS.picks (by focus ((repeat (first | apply Picks.all | apply Picks.nil | (refine Picks.cons (by repeat (first | apply Take.head | apply Take.tail)) ?_) | apply Picks.drop)); done))⟩
    · have hsh : share lim L x y = mk lim L ⟨3, 0, x, (nd L y).a, 0⟩ := by
        unfold share; rw [if_pos ⟨hx, hy⟩, if_neg (by omega), if_neg (by omega)]
      refine Run.ret Try.func52 rfl (.tmp rfl (.tmp rfl .nil)) ?_
      rw [hsh]
      exact ⟨rfl, hS.picks (by focus ((repeat (first | apply Picks.all | apply Picks.nil | (refine Picks.cons (by repeat (first | apply Take.head | apply Take.tail)) ?_) | apply Picks.drop)); done))⟩
end
end Go.Proofs.Ythejfodjielahaa
