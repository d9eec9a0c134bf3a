/-
  The document's layer of recipes: its steps.
-/
import Derived.Test.YthejfodjielahaaRecipe6
namespace Go.Proofs.Ythejfodjielahaa
set_option maxRecDepth 8000
set_option linter.unusedSimpArgs false
set_option linter.unusedVariables false
open Go Go.RowKit

/-! Recipe7 -/

section
variable {we w : World} {ρ : List (Nat × Obj)} {σ F : List HP} {lim : Nat} {L : List Nd} {made heard : List Int}

set_option maxHeartbeats 8000000 in
theorem refAhead {s : Stp} {u : Nat} (hu : u ≤ 3) (hS : St we ρ σ w) :
    Cl Try.prog 43 [.agg (stpL s).toArray, .int .i64 u, .int .i64 made.length] w fun v w' => v = .bool (aheadS s u made) ∧ St we ρ σ w' := by
  obtain ⟨op, n, a, b, c⟩ := s
  have hcases : u = 0 ∨ u = 1 ∨ u = 2 ∨ u = 3 := by omega
  show Cl _ _ [.agg [Value.int .i64 op, Value.int .u64 n, Value.int .i64 a, Value.int .i64 b, Value.int .i64 c].toArray, _, _] _ _
  rcases hcases with rfl | rfl | rfl | rfl
  all_goals
    refine Run.calls3 (n := 75) Try.func43 rfl rfl rfl ?_
    repeat' first
      | refine Run.seq ?_
      | refine Run.region ?_
      | (refine RO.split ?_ ?_ <;> intro hc <;> try (first | (exfalso; omega) | exact absurd rfl hc | exact Bool.noConfusion hc))
      | refine RO.nil ?_
      | refine RO.still (by exact Still.any) hS rfl ?_
      | (apply RO.op; apply OP.box hS; rfl; rfl; rfl; clear hS; intro b w1 hS)
      | (apply RO.op; apply OP.alloc hS; rfl; rfl; rfl; clear hS; intro b w1 hS)
      | (apply RO.op; apply OP.store hS; rfl; rfl; rfl; rfl; rfl; (focus ((repeat (first | apply Has.head | apply Take.head | apply Put.head | apply Has.tail | apply Take.tail | apply Put.tail)); done)); rfl; rfl; clear hS; intro w1 hS)
      | (apply RO.op; apply OP.buildSlice hS; rfl; rfl; (exact eqAuto); rfl; rfl; rfl; rfl; rfl; clear hS; intro b w1 hS)
      | (apply RO.op; apply OP.makeMap hS; rfl; clear hS; intro b w1 hS)
      | refine RO.yes rfl rfl ?_
      | refine RO.no rfl rfl rfl rfl ?_
      | refine RO.noUndef rfl rfl rfl ?_
      | refine RO.noNone rfl rfl rfl ?_
      | refine Run.cond_true rfl ?_
      | refine Run.cond_false rfl ?_
      | refine Run.skip ?_
      | refine Run.block ?_
      | refine Run.inBlock ?_
      | refine Run.exit rfl ?_
    all_goals
      refine Run.ret Try.func43 rfl (.tmp rfl .nil) ?_
      refine ⟨?_, hS.picks (by focus ((repeat (first | apply Picks.all | apply Picks.nil | (refine Picks.cons (by repeat (first | apply Take.head | apply Take.tail)) ?_) | apply Picks.drop)); done))⟩
      show Value.bool _ = Value.bool _
      congr 1
      simp [aheadS, ahd, *]
      try omega
end

/-! Recipe8 -/

section
variable {we w : World} {ρ : List (Nat × Obj)} {σ F : List HP} {lim g cl0 r cap : Nat} {L : List Nd} {made heard : List Int} {hv : Value} {cells : List Value} {a : Value}

theorem ra_same {e : Int} {r2 c2 n m : Nat} (h : e ≠ 0 → raV lim r2 n c2 = raV lim r m cap) : e ≠ 0 → r2 = r ∧ c2 = cap := fun he => by
  have := h he
  simp [raV] at this
  exact ⟨by omega, by omega⟩

set_option maxHeartbeats 1000000 in
theorem refShareS {x y : Int} (hS : St we ρ (RA a lim L :: F) w) : Cl Try.prog 44 [a, .int .i64 x, .int .i64 y] w fun v w' => ∃ a', v = .tuple #[a', .int .i64 (share lim L x y).2.1, .int .i64 (share lim L x y).2.2] ∧ ((share lim L x y).2.2 ≠ 0 → a' = a) ∧ St we ρ (RA a' lim (share lim L x y).1 :: F) w' := by
  obtain ⟨r, cap, spare, rfl, g, g2, g3, g4, hS⟩ := ra_open hS
  refine Run.calls3 (n := 63) Try.func44 rfl rfl rfl ?_
  have hx' : has L x = true → 0 ≤ x ∧ x < L.length := has_iff.1
  have hy' : has L y = true → 0 ≤ y ∧ y < L.length := has_iff.1
  repeat' first
    | (apply RO.op; apply OP.callF; rfl; rfl; rfl; exact refHas hS; clear hS; rintro v w1 ⟨rfl, hS⟩; refine RO.splitB ?_ ?_ <;> intro hb)
    | refine Run.seq ?_
    | refine Run.region ?_
    | (refine RO.split ?_ ?_ <;> intro hc <;> try (first | (exfalso; omega) | exact absurd rfl hc | exact Bool.noConfusion hc))
    | refine RO.nil ?_
    | refine RO.still (by exact Still.any) hS rfl ?_
    | (apply RO.op; apply OP.box hS; rfl; rfl; rfl; clear hS; intro b w1 hS)
    | (apply RO.op; apply OP.alloc hS; rfl; rfl; rfl; clear hS; intro b w1 hS)
    | (apply RO.op; apply OP.store hS; rfl; rfl; rfl; rfl; rfl; (focus ((repeat (first | apply Has.head | apply Take.head | apply Put.head | apply Has.tail | apply Take.tail | apply Put.tail)); done)); rfl; rfl; clear hS; intro w1 hS)
    | (apply RO.op; apply OP.buildSlice hS; rfl; rfl; (exact eqAuto); rfl; rfl; rfl; rfl; rfl; clear hS; intro b w1 hS)
    | (apply RO.op; apply OP.makeMap hS; rfl; clear hS; intro b w1 hS)
    | refine RO.yes rfl rfl ?_
    | refine RO.no rfl rfl rfl rfl ?_
    | refine RO.noUndef rfl rfl rfl ?_
    | refine RO.noNone rfl rfl rfl ?_
    | refine Run.cond_true rfl ?_
    | refine Run.cond_false rfl ?_
    | refine Run.skip ?_
    | refine Run.block ?_
    | refine Run.inBlock ?_
    | refine Run.exit rfl ?_
  all_goals first
    | (have hsh : share lim L x y = (L, 0, 1) := by
         unfold share
         rw [if_neg (by simp_all)]
       refine Run.ret Try.func44 rfl (.cell rfl (by first | exact run_loadAgg rfl rfl (hS.rd (by exact Rd.any)) (by rfl) (by rfl) | exact run_loadScalar rfl (cell_of (hS.rd (by exact Rd.any)) (by rfl))) (.tmp rfl (.tmp rfl .nil))) ?_
       rw [hsh]
       exact ⟨_, rfl, fun _ => rfl, ra_shut (r := r) (cap := cap) (spare := spare) rfl g g2 g3 g4 (hS.picks (by focus ((repeat (first | apply Picks.all | apply Picks.nil | (refine Picks.cons (by repeat (first | apply Take.head | apply Take.tail)) ?_) | apply Picks.drop)); done)))⟩)
    | skip
  have hx : has L x = true := by assumption
  have hy : has L y = true := by assumption
  have hx2 := hx' hx
  have hy2 := hy' hy
  repeat' first
    | (apply RO.op; apply OP.callF; rfl; rfl; rfl; exact refCompare g hS (by exact Rd.any); clear hS; rintro v w1 ⟨rfl, hS⟩)
    | (apply RO.op; apply OP.callF; rfl; rfl; rfl; exact refMkS (n := ⟨4, 0, x, y, 0⟩) (ra_shut (r := r) (cap := cap) (spare := spare) rfl g g2 g3 g4 (hS.take (by focus ((repeat (first | apply Has.head | apply Take.head | apply Put.head | apply Has.tail | apply Take.tail | apply Put.tail)); done)))); clear hS; rintro v w1 ⟨a', rfl, hsm, hS⟩; obtain ⟨r2, cap2, spare2, rfl, f1, f2, f3, f4, hS⟩ := ra_open hS)
    | (apply RO.op; apply OP.callF; rfl; rfl; rfl; exact refMkS (n := ⟨3, 0, x, (nd L y).a, 0⟩) (ra_shut (r := r) (cap := cap) (spare := spare) rfl g g2 g3 g4 (hS.take (by focus ((repeat (first | apply Has.head | apply Take.head | apply Put.head | apply Has.tail | apply Take.tail | apply Put.tail)); done)))); clear hS; rintro v w1 ⟨a', rfl, hsm, hS⟩; obtain ⟨r2, cap2, spare2, rfl, f1, f2, f3, f4, hS⟩ := ra_open hS)
    | (apply RO.op; apply OP.callF; rfl; rfl; rfl; exact refMkS (n := ⟨3, 0, (nd L y).a, x, 0⟩) (ra_shut (r := r) (cap := cap) (spare := spare) rfl g g2 g3 g4 (hS.take (by focus ((repeat (first | apply Has.head | apply Take.head | apply Put.head | apply Has.tail | apply Take.tail | apply Put.tail)); done)))); clear hS; rintro v w1 ⟨a', rfl, hsm, hS⟩; obtain ⟨r2, cap2, spare2, rfl, f1, f2, f3, f4, hS⟩ := ra_open hS)
    | refine Run.seq ?_
    | refine Run.region ?_
    | (refine RO.split ?_ ?_ <;> intro hc <;> try (first | (exfalso; omega) | exact absurd rfl hc | exact Bool.noConfusion hc))
    | refine RO.nil ?_
    | refine RO.still (by exact Still.any) hS rfl ?_
    | (apply RO.op; apply OP.box hS; rfl; rfl; rfl; clear hS; intro b w1 hS)
    | (apply RO.op; apply OP.alloc hS; rfl; rfl; rfl; clear hS; intro b w1 hS)
    | (apply RO.op; apply OP.store hS; rfl; rfl; rfl; rfl; rfl; (focus ((repeat (first | apply Has.head | apply Take.head | apply Put.head | apply Has.tail | apply Take.tail | apply Put.tail)); done)); rfl; rfl; clear hS; intro w1 hS)
    | (apply RO.op; apply OP.buildSlice hS; rfl; rfl; (exact eqAuto); rfl; rfl; rfl; rfl; rfl; clear hS; intro b w1 hS)
    | (apply RO.op; apply OP.makeMap hS; rfl; clear hS; intro b w1 hS)
    | refine RO.yes rfl rfl ?_
    | refine RO.no rfl rfl rfl rfl ?_
    | refine RO.noUndef rfl rfl rfl ?_
    | refine RO.noNone rfl rfl rfl ?_
    | refine Run.cond_true rfl ?_
    | refine Run.cond_false rfl ?_
    | refine Run.skip ?_
    | refine Run.block ?_
    | refine Run.inBlock ?_
    | refine Run.exit rfl ?_
  · have hsh : share lim L x y = mk lim L ⟨4, 0, x, y, 0⟩ := by unfold share; rw [if_pos ⟨hx, hy⟩, if_pos (by assumption)]
    refine Run.ret Try.func44 rfl (.cell rfl (by first | exact run_loadAgg rfl rfl (hS.rd (by exact Rd.any)) (by rfl) (by rfl) | exact run_loadScalar rfl (cell_of (hS.rd (by exact Rd.any)) (by rfl))) (.tmp rfl (.tmp rfl .nil))) ?_
    rw [hsh]
    exact ⟨_, rfl, hsm, ra_shut (r := r2) (cap := cap2) (spare := spare2) rfl f1 f2 f3 f4 (hS.picks (by focus ((repeat (first | apply Picks.all | apply Picks.nil | (refine Picks.cons (by repeat (first | apply Take.head | apply Take.tail)) ?_) | apply Picks.drop)); done)))⟩
  · have hsh : share lim L x y = mk lim L ⟨3, 0, x, (nd L y).a, 0⟩ := by unfold share; rw [if_pos ⟨hx, hy⟩, if_neg (by omega), if_neg (by omega)]
    refine Run.ret Try.func44 rfl (.cell rfl (by first | exact run_loadAgg rfl rfl (hS.rd (by exact Rd.any)) (by rfl) (by rfl) | exact run_loadScalar rfl (cell_of (hS.rd (by exact Rd.any)) (by rfl))) (.tmp rfl (.tmp rfl .nil))) ?_
    rw [hsh]
    exact ⟨_, rfl, hsm, ra_shut (r := r2) (cap := cap2) (spare := spare2) rfl f1 f2 f3 f4 (hS.picks (by focus ((repeat (first | apply Picks.all | apply Picks.nil | (refine Picks.cons (by repeat (first | apply Take.head | apply Take.tail)) ?_) | apply Picks.drop)); done)))⟩
  · have hsh : share lim L x y = mk lim L ⟨3, 0, (nd L y).a, x, 0⟩ := by unfold share; rw [if_pos ⟨hx, hy⟩, if_neg (by omega), if_pos (by omega)]
    refine Run.ret Try.func44 rfl (.cell rfl (by first | exact run_loadAgg rfl rfl (hS.rd (by exact Rd.any)) (by rfl) (by rfl) | exact run_loadScalar rfl (cell_of (hS.rd (by exact Rd.any)) (by rfl))) (.tmp rfl (.tmp rfl .nil))) ?_
    rw [hsh]
    exact ⟨_, rfl, hsm, ra_shut (r := r2) (cap := cap2) (spare := spare2) rfl f1 f2 f3 f4 (hS.picks (by focus ((repeat (first | apply Picks.all | apply Picks.nil | (refine Picks.cons (by repeat (first | apply Take.head | apply Take.tail)) ?_) | apply Picks.drop)); done)))⟩

set_option maxHeartbeats 8000000 in
theorem refOne2 {zb zc x : Int} {i : Nat} (ha : aheadS ⟨2, 0, i, zb, zc⟩ 1 made = true) (hi : i < made.length) (l0 : cells[i]? = some (.int .i64 x)) (hl : Rd ρ F g (.cells cells.toArray 3 (0, 0)))
    (hS : St we ρ (RA (raV lim r L.length cap) lim L :: F) w) :
    Cl Try.prog 27 [raV lim r L.length cap, hv, .slice (some ⟨g, 0, none⟩) made.length cl0, .agg (stpL ⟨2, 0, i, zb, zc⟩).toArray] w
      fun v w' => ∃ r' c', v = .tuple #[raV lim r' (mk lim L ⟨2, 0, x, 0, 0⟩).1.length c', .int .i64 (mk lim L ⟨2, 0, x, 0, 0⟩).2.1, .int .i64 (mk lim L ⟨2, 0, x, 0, 0⟩).2.2] ∧ ((mk lim L ⟨2, 0, x, 0, 0⟩).2.2 ≠ 0 → r' = r ∧ c' = cap) ∧
        St we ρ (RA (raV lim r' (mk lim L ⟨2, 0, x, 0, 0⟩).1.length c') lim (mk lim L ⟨2, 0, x, 0, 0⟩).1 :: F) w' := by
  have hah : ∀ {w : World} {σ : List HP}, St we ρ σ w → _ := fun {w σ} hS => refAhead (w := w) (σ := σ) (s := ⟨2, 0, i, zb, zc⟩) (u := 1) (made := made) (by omega) hS
  simp only [ha] at hah
  show Cl _ _ [_, _, _, .agg [Value.int .i64 2, Value.int .u64 0, Value.int .i64 i, Value.int .i64 zb, Value.int .i64 zc].toArray] _ _
  refine Run.calls4 (n := 364) Try.func27 rfl rfl rfl ?_
  have tok : True := trivial
  have tok2 : True := trivial
  repeat' first
    | (have _ := tok; clear tok; apply RO.op; apply OP.box hS; rfl; rfl; rfl; clear hS; intro b4 w1 hS)
    | (have _ := tok2; clear tok2; apply RO.op; apply OP.box hS; rfl; rfl; rfl; clear hS; intro b7 w1 hS)
    | (apply RO.op; apply OP.callF; rfl; rfl; rfl; show Cl _ 43 _ _ _; exact hah hS; clear hS; rintro v w1 ⟨rfl, hS⟩)
    | refine Run.seq ?_
    | refine Run.region ?_
    | (refine RO.split ?_ ?_ <;> intro hc <;> try (first | (exfalso; omega) | exact absurd rfl hc | exact Bool.noConfusion hc))
    | refine RO.nil ?_
    | refine RO.still (by exact Still.any) hS rfl ?_
    | (apply RO.op; apply OP.box hS; rfl; rfl; rfl; clear hS; intro b w1 hS)
    | (apply RO.op; apply OP.alloc hS; rfl; rfl; rfl; clear hS; intro b w1 hS)
    | (apply RO.op; apply OP.store hS; rfl; rfl; rfl; rfl; rfl; (focus ((repeat (first | apply Has.head | apply Take.head | apply Put.head | apply Has.tail | apply Take.tail | apply Put.tail)); done)); rfl; rfl; clear hS; intro w1 hS)
    | (apply RO.op; apply OP.buildSlice hS; rfl; rfl; (exact eqAuto); rfl; rfl; rfl; rfl; rfl; clear hS; intro b w1 hS)
    | (apply RO.op; apply OP.makeMap hS; rfl; clear hS; intro b w1 hS)
    | refine RO.yes rfl rfl ?_
    | refine RO.no rfl rfl rfl rfl ?_
    | refine RO.noUndef rfl rfl rfl ?_
    | refine RO.noNone rfl rfl rfl ?_
    | refine Run.cond_true rfl ?_
    | refine Run.cond_false rfl ?_
    | refine Run.skip ?_
    | refine Run.block ?_
    | refine Run.inBlock ?_
    | refine Run.exit rfl ?_
  replace hS : St we ρ (Row b7 [Value.int .i64 2, Value.int .u64 0, Value.int .i64 i, Value.int .i64 zb, Value.int .i64 zc] 77 :: Row b4 [.int .i64 lim, .slice (some ⟨r, 0, none⟩) L.length cap] 29 :: Row b [.int .i64 0, .slice none 0 0] 29 :: RA (raV lim r L.length cap) lim L :: F) _ := hS.picks (by focus ((repeat (first | apply Picks.all | apply Picks.nil | (refine Picks.cons (by repeat (first | apply Take.head | apply Take.tail)) ?_) | apply Picks.drop)); done))
  refine (Run.regionH_cut (fun x1 : {x2 : Nat × Nat // (mk lim L ⟨2, 0, x, 0, 0⟩).2.2 ≠ 0 → x2.1 = r ∧ x2.2 = cap} => Row b [.int .i64 lim, .slice (some ⟨x1.1.1, 0, none⟩) (mk lim L ⟨2, 0, x, 0, 0⟩).1.length x1.1.2] 29 :: RA (raV lim x1.1.1 (mk lim L ⟨2, 0, x, 0, 0⟩).1.length x1.1.2) lim (mk lim L ⟨2, 0, x, 0, 0⟩).1 :: F)
    (fun _ => [(8, .pointer (some ⟨b, 0, none⟩)), (9, .int .i64 (mk lim L ⟨2, 0, x, 0, 0⟩).2.1), (10, .int .i64 (mk lim L ⟨2, 0, x, 0, 0⟩).2.2)])
    hS (.cons_cons _ (.cons_cons _ (.cons _ (.cons _ (List.Sublist.refl _))))) (by rfl) (by rfl) (by rfl) ?_ ?_)
  · clear hS
    intro w1 hS
    refine RH.relist (listed' := bm 14 0) (by kernel_rfl) ?_
    all_goals (apply RH.take (i := 0) (listed := (bm 14 0)) (listed' := (bm 14 1)); rfl; kernel_rfl; kernel_rfl; (first | (apply Still.load; rfl; rfl; (exact Rd.any); exact l0) | (apply Still.load; rfl; rfl; (exact Rd.any); exact l1) | (apply Still.load; rfl; rfl; (exact Rd.any); exact l2) | (apply Still.load; rfl; rfl; (exact Rd.any); (first | rfl | exact flat_get0 (by assumption) | exact flat_get1 (by assumption) | exact flat_get2 (by assumption) | exact flat_get3 (by assumption) | exact flat_get4 (by assumption))) | (apply Still.loadAgg; rfl; rfl; (exact eqAuto); (exact Rd.any); (first | exact flat_take (by assumption) | rfl); rfl)); (first | exact hS | exact hS.tail | exact hS.sublist (by repeat (first | exact List.Sublist.refl _ | refine .cons_cons _ ?_ | refine .cons _ ?_))); rfl)
    all_goals (apply RH.take (i := 1) (listed := (bm 14 1)) (listed' := (bm 14 3)); rfl; kernel_rfl; kernel_rfl; (apply Still.move; rfl); (first | exact hS | exact hS.tail | exact hS.sublist (by repeat (first | exact List.Sublist.refl _ | refine .cons_cons _ ?_ | refine .cons _ ?_))); rfl)
    all_goals (apply RH.take (i := 2) (listed := (bm 14 3)) (listed' := (bm 14 7)); rfl; kernel_rfl; kernel_rfl; (apply Still.fieldAddr; rfl; (exact eqAuto)); (first | exact hS | exact hS.tail | exact hS.sublist (by repeat (first | exact List.Sublist.refl _ | refine .cons_cons _ ?_ | refine .cons _ ?_))); rfl)
    all_goals (apply RH.take (i := 3) (listed := (bm 14 7)) (listed' := (bm 14 15)); rfl; kernel_rfl; kernel_rfl; (first | (apply Still.load; rfl; rfl; (exact Rd.any); exact l0) | (apply Still.load; rfl; rfl; (exact Rd.any); exact l1) | (apply Still.load; rfl; rfl; (exact Rd.any); exact l2) | (apply Still.load; rfl; rfl; (exact Rd.any); (first | rfl | exact flat_get0 (by assumption) | exact flat_get1 (by assumption) | exact flat_get2 (by assumption) | exact flat_get3 (by assumption) | exact flat_get4 (by assumption))) | (apply Still.loadAgg; rfl; rfl; (exact eqAuto); (exact Rd.any); (first | exact flat_take (by assumption) | rfl); rfl)); (first | exact hS | exact hS.tail | exact hS.sublist (by repeat (first | exact List.Sublist.refl _ | refine .cons_cons _ ?_ | refine .cons _ ?_))); rfl)
    all_goals (apply RH.take (i := 4) (listed := (bm 14 15)) (listed' := (bm 14 31)); rfl; kernel_rfl; kernel_rfl; (first | (exact Still.any) | (apply Still.indexAddrA; rfl; rfl; rfl; (exact eqAuto); omega; omega; (first | (simp only [Int.toNat_natCast, Nat.mul_one, Nat.zero_add, Int.reduceToNat, Nat.reduceMul, Nat.reduceAdd, Nat.zero_mul]; exact rfl) | rfl))); (first | exact hS | exact hS.tail | exact hS.sublist (by repeat (first | exact List.Sublist.refl _ | refine .cons_cons _ ?_ | refine .cons _ ?_))); rfl)
    all_goals (apply RH.take (i := 5) (listed := (bm 14 31)) (listed' := (bm 14 63)); rfl; kernel_rfl; kernel_rfl; (first | (apply Still.load; rfl; rfl; (exact Rd.any); exact l0) | (apply Still.load; rfl; rfl; (exact Rd.any); exact l1) | (apply Still.load; rfl; rfl; (exact Rd.any); exact l2) | (apply Still.load; rfl; rfl; (exact Rd.any); (first | rfl | exact flat_get0 (by assumption) | exact flat_get1 (by assumption) | exact flat_get2 (by assumption) | exact flat_get3 (by assumption) | exact flat_get4 (by assumption))) | (apply Still.loadAgg; rfl; rfl; (exact eqAuto); (exact Rd.any); (first | exact flat_take (by assumption) | rfl); rfl)); (first | exact hS | exact hS.tail | exact hS.sublist (by repeat (first | exact List.Sublist.refl _ | refine .cons_cons _ ?_ | refine .cons _ ?_))); rfl)
    all_goals (apply RH.take (i := 6) (listed := (bm 14 63)) (listed' := (bm 14 127)); rfl; kernel_rfl; kernel_rfl; (first | (apply Still.load; rfl; rfl; (exact Rd.any); exact l0) | (apply Still.load; rfl; rfl; (exact Rd.any); exact l1) | (apply Still.load; rfl; rfl; (exact Rd.any); exact l2) | (exact Still.any)); (first | exact hS | exact hS.tail | exact hS.sublist (by repeat (first | exact List.Sublist.refl _ | refine .cons_cons _ ?_ | refine .cons _ ?_))); rfl)
    all_goals
      apply RH.all1 (i := 7) (listed := (bm 14 127))
      · kernel_rfl
      · apply RI.op (i := 7) (listed := (bm 14 127)) (listed' := (bm 14 255)); rfl; kernel_rfl
        all_goals try first
        | (apply OP.callF; rfl; rfl; rfl; show Cl _ 33 _ _ _; exact refMkS (n := ⟨2, 0, x, 0, 0⟩) (hS.take (by focus ((repeat (first | apply Has.head | apply Take.head | apply Put.head | apply Has.tail | apply Take.tail | apply Put.tail)); done))); clear hS; rintro v w1 ⟨a', rfl, hsame, hS⟩; obtain ⟨r2, c2, rfl, hS⟩ := ra_eq hS; have hs2 := ra_same hsame; clear hsame; refine ⟨(by first | exact hS | exact hS.tail | exact hS.sublist (by repeat (first | exact List.Sublist.refl _ | refine .cons_cons _ ?_ | refine .cons _ ?_))), ?_⟩)
        | (refine OP.still (by exact Still.any) hS rfl ⟨(by first | exact hS | exact hS.tail | exact hS.sublist (by repeat (first | exact List.Sublist.refl _ | refine .cons_cons _ ?_ | refine .cons _ ?_))), ?_⟩)
        all_goals (apply RH.take (i := 8) (listed := (bm 14 255)) (listed' := (bm 14 511)); rfl; kernel_rfl; kernel_rfl; (apply Still.extract; rfl; rfl); (first | exact hS | exact hS.tail | exact hS.sublist (by repeat (first | exact List.Sublist.refl _ | refine .cons_cons _ ?_ | refine .cons _ ?_))); rfl)
        all_goals (apply RH.take (i := 9) (listed := (bm 14 511)) (listed' := (bm 14 1023)); rfl; kernel_rfl; kernel_rfl; (apply Still.extract; rfl; rfl); (first | exact hS | exact hS.tail | exact hS.sublist (by repeat (first | exact List.Sublist.refl _ | refine .cons_cons _ ?_ | refine .cons _ ?_))); rfl)
        all_goals (apply RH.take (i := 10) (listed := (bm 14 1023)) (listed' := (bm 14 2047)); rfl; kernel_rfl; kernel_rfl; (apply Still.extract; rfl; rfl); (first | exact hS | exact hS.tail | exact hS.sublist (by repeat (first | exact List.Sublist.refl _ | refine .cons_cons _ ?_ | refine .cons _ ?_))); rfl)
        all_goals
          apply RH.all1 (i := 11) (listed := (bm 14 2047))
          · kernel_rfl
          · apply RI.op (i := 11) (listed := (bm 14 2047)) (listed' := (bm 14 4095)); rfl; kernel_rfl
            all_goals try first
            | (apply OP.store hS; rfl; rfl; rfl; rfl; rfl; (focus ((repeat (first | apply Has.head | apply Take.head | apply Put.head | apply Has.tail | apply Take.tail | apply Put.tail)); done)); rfl; rfl; clear hS; intro w1 hS; refine ⟨(by first | exact hS | exact hS.tail | exact hS.sublist (by repeat (first | exact List.Sublist.refl _ | refine .cons_cons _ ?_ | refine .cons _ ?_))), ?_⟩)
            all_goals (apply RH.take (i := 12) (listed := (bm 14 4095)) (listed' := (bm 14 8191)); rfl; kernel_rfl; kernel_rfl; (apply Still.assign; rfl); (first | exact hS | exact hS.tail | exact hS.sublist (by repeat (first | exact List.Sublist.refl _ | refine .cons_cons _ ?_ | refine .cons _ ?_))); rfl)
            all_goals (apply RH.take (i := 13) (listed := (bm 14 8191)) (listed' := (bm 14 16383)); rfl; kernel_rfl; kernel_rfl; (apply Still.assign; rfl); (first | exact hS | exact hS.tail | exact hS.sublist (by repeat (first | exact List.Sublist.refl _ | refine .cons_cons _ ?_ | refine .cons _ ?_))); rfl)
            all_goals (apply RH.done (listed := (bm 14 16383)); kernel_rfl)
            all_goals (exact ⟨⟨(r2, c2), hs2⟩, (by focus ((repeat (first | exact .nil | refine .cons rfl ?_)); done)), hS.picks (by focus ((repeat (first | apply Picks.all | apply Picks.nil | (refine Picks.cons (by repeat (first | apply Take.head | apply Take.tail)) ?_) | apply Picks.drop)); done))⟩)
  · clear hS
    rintro ⟨⟨r2, c2⟩, hs2⟩ w1 hS
    repeat' first
      | refine Run.seq ?_
      | refine Run.region ?_
      | (refine RO.split ?_ ?_ <;> intro hc <;> try (first | (exfalso; omega) | exact absurd rfl hc | exact Bool.noConfusion hc))
      | refine RO.nil ?_
      | refine RO.still (by exact Still.any) hS rfl ?_
      | (apply RO.op; apply OP.box hS; rfl; rfl; rfl; clear hS; intro b w1 hS)
      | (apply RO.op; apply OP.alloc hS; rfl; rfl; rfl; clear hS; intro b w1 hS)
      | (apply RO.op; apply OP.store hS; rfl; rfl; rfl; rfl; rfl; (focus ((repeat (first | apply Has.head | apply Take.head | apply Put.head | apply Has.tail | apply Take.tail | apply Put.tail)); done)); rfl; rfl; clear hS; intro w1 hS)
      | (apply RO.op; apply OP.buildSlice hS; rfl; rfl; (exact eqAuto); rfl; rfl; rfl; rfl; rfl; clear hS; intro b w1 hS)
      | (apply RO.op; apply OP.makeMap hS; rfl; clear hS; intro b w1 hS)
      | refine RO.yes rfl rfl ?_
      | refine RO.no rfl rfl rfl rfl ?_
      | refine RO.noUndef rfl rfl rfl ?_
      | refine RO.noNone rfl rfl rfl ?_
      | refine Run.cond_true rfl ?_
      | refine Run.cond_false rfl ?_
      | refine Run.skip ?_
      | refine Run.block ?_
      | refine Run.inBlock ?_
      | refine Run.exit rfl ?_
    refine Run.ret Try.func27 rfl (.cell rfl (by first | exact run_loadAgg rfl rfl (hS.rd (by exact Rd.any)) (by rfl) (by rfl) | exact run_loadScalar rfl (cell_of (hS.rd (by exact Rd.any)) (by rfl))) (.tmp rfl (.tmp rfl .nil))) ?_
    exact ⟨r2, c2, rfl, hs2, hS.picks (by focus ((repeat (first | apply Picks.all | apply Picks.nil | (refine Picks.cons (by repeat (first | apply Take.head | apply Take.tail)) ?_) | apply Picks.drop)); done))⟩

set_option maxHeartbeats 8000000 in
theorem refOne3 {zc x y : Int} {i j : Nat} (ha : aheadS ⟨3, 0, i, j, zc⟩ 2 made = true) (hi : i < made.length) (l0 : cells[i]? = some (.int .i64 x)) (hj : j < made.length) (l1 : cells[j]? = some (.int .i64 y)) (hl : Rd ρ F g (.cells cells.toArray 3 (0, 0)))
    (hS : St we ρ (RA (raV lim r L.length cap) lim L :: F) w) :
    Cl Try.prog 27 [raV lim r L.length cap, hv, .slice (some ⟨g, 0, none⟩) made.length cl0, .agg (stpL ⟨3, 0, i, j, zc⟩).toArray] w
      fun v w' => ∃ r' c', v = .tuple #[raV lim r' (share lim L x y).1.length c', .int .i64 (share lim L x y).2.1, .int .i64 (share lim L x y).2.2] ∧ ((share lim L x y).2.2 ≠ 0 → r' = r ∧ c' = cap) ∧
        St we ρ (RA (raV lim r' (share lim L x y).1.length c') lim (share lim L x y).1 :: F) w' := by
  have hah : ∀ {w : World} {σ : List HP}, St we ρ σ w → _ := fun {w σ} hS => refAhead (w := w) (σ := σ) (s := ⟨3, 0, i, j, zc⟩) (u := 2) (made := made) (by omega) hS
  simp only [ha] at hah
  show Cl _ _ [_, _, _, .agg [Value.int .i64 3, Value.int .u64 0, Value.int .i64 i, Value.int .i64 j, Value.int .i64 zc].toArray] _ _
  refine Run.calls4 (n := 364) Try.func27 rfl rfl rfl ?_
  have tok : True := trivial
  have tok2 : True := trivial
  repeat' first
    | (have _ := tok; clear tok; apply RO.op; apply OP.box hS; rfl; rfl; rfl; clear hS; intro b4 w1 hS)
    | (have _ := tok2; clear tok2; apply RO.op; apply OP.box hS; rfl; rfl; rfl; clear hS; intro b7 w1 hS)
    | (apply RO.op; apply OP.callF; rfl; rfl; rfl; show Cl _ 43 _ _ _; exact hah hS; clear hS; rintro v w1 ⟨rfl, hS⟩)
    | refine Run.seq ?_
    | refine Run.region ?_
    | (refine RO.split ?_ ?_ <;> intro hc <;> try (first | (exfalso; omega) | exact absurd rfl hc | exact Bool.noConfusion hc))
    | refine RO.nil ?_
    | refine RO.still (by exact Still.any) hS rfl ?_
    | (apply RO.op; apply OP.box hS; rfl; rfl; rfl; clear hS; intro b w1 hS)
    | (apply RO.op; apply OP.alloc hS; rfl; rfl; rfl; clear hS; intro b w1 hS)
    | (apply RO.op; apply OP.store hS; rfl; rfl; rfl; rfl; rfl; (focus ((repeat (first | apply Has.head | apply Take.head | apply Put.head | apply Has.tail | apply Take.tail | apply Put.tail)); done)); rfl; rfl; clear hS; intro w1 hS)
    | (apply RO.op; apply OP.buildSlice hS; rfl; rfl; (exact eqAuto); rfl; rfl; rfl; rfl; rfl; clear hS; intro b w1 hS)
    | (apply RO.op; apply OP.makeMap hS; rfl; clear hS; intro b w1 hS)
    | refine RO.yes rfl rfl ?_
    | refine RO.no rfl rfl rfl rfl ?_
    | refine RO.noUndef rfl rfl rfl ?_
    | refine RO.noNone rfl rfl rfl ?_
    | refine Run.cond_true rfl ?_
    | refine Run.cond_false rfl ?_
    | refine Run.skip ?_
    | refine Run.block ?_
    | refine Run.inBlock ?_
    | refine Run.exit rfl ?_
  replace hS : St we ρ (Row b7 [Value.int .i64 3, Value.int .u64 0, Value.int .i64 i, Value.int .i64 j, Value.int .i64 zc] 77 :: Row b4 [.int .i64 lim, .slice (some ⟨r, 0, none⟩) L.length cap] 29 :: Row b [.int .i64 0, .slice none 0 0] 29 :: RA (raV lim r L.length cap) lim L :: F) _ := hS.picks (by focus ((repeat (first | apply Picks.all | apply Picks.nil | (refine Picks.cons (by repeat (first | apply Take.head | apply Take.tail)) ?_) | apply Picks.drop)); done))
  refine (Run.regionH_cut (fun x1 : {x2 : Nat × Nat // (share lim L x y).2.2 ≠ 0 → x2.1 = r ∧ x2.2 = cap} => Row b [.int .i64 lim, .slice (some ⟨x1.1.1, 0, none⟩) (share lim L x y).1.length x1.1.2] 29 :: RA (raV lim x1.1.1 (share lim L x y).1.length x1.1.2) lim (share lim L x y).1 :: F)
    (fun _ => [(8, .pointer (some ⟨b, 0, none⟩)), (9, .int .i64 (share lim L x y).2.1), (10, .int .i64 (share lim L x y).2.2)])
    hS (.cons_cons _ (.cons_cons _ (.cons _ (.cons _ (List.Sublist.refl _))))) (by rfl) (by rfl) (by rfl) ?_ ?_)
  · clear hS
    intro w1 hS
    refine RH.relist (listed' := bm 18 0) (by kernel_rfl) ?_
    all_goals (apply RH.take (i := 0) (listed := (bm 18 0)) (listed' := (bm 18 1)); rfl; kernel_rfl; kernel_rfl; (first | (apply Still.load; rfl; rfl; (exact Rd.any); exact l0) | (apply Still.load; rfl; rfl; (exact Rd.any); exact l1) | (apply Still.load; rfl; rfl; (exact Rd.any); exact l2) | (apply Still.load; rfl; rfl; (exact Rd.any); (first | rfl | exact flat_get0 (by assumption) | exact flat_get1 (by assumption) | exact flat_get2 (by assumption) | exact flat_get3 (by assumption) | exact flat_get4 (by assumption))) | (apply Still.loadAgg; rfl; rfl; (exact eqAuto); (exact Rd.any); (first | exact flat_take (by assumption) | rfl); rfl)); (first | exact hS | exact hS.tail | exact hS.sublist (by repeat (first | exact List.Sublist.refl _ | refine .cons_cons _ ?_ | refine .cons _ ?_))); rfl)
    all_goals (apply RH.take (i := 1) (listed := (bm 18 1)) (listed' := (bm 18 3)); rfl; kernel_rfl; kernel_rfl; (apply Still.move; rfl); (first | exact hS | exact hS.tail | exact hS.sublist (by repeat (first | exact List.Sublist.refl _ | refine .cons_cons _ ?_ | refine .cons _ ?_))); rfl)
    all_goals (apply RH.take (i := 2) (listed := (bm 18 3)) (listed' := (bm 18 7)); rfl; kernel_rfl; kernel_rfl; (apply Still.fieldAddr; rfl; (exact eqAuto)); (first | exact hS | exact hS.tail | exact hS.sublist (by repeat (first | exact List.Sublist.refl _ | refine .cons_cons _ ?_ | refine .cons _ ?_))); rfl)
    all_goals (apply RH.take (i := 3) (listed := (bm 18 7)) (listed' := (bm 18 15)); rfl; kernel_rfl; kernel_rfl; (first | (apply Still.load; rfl; rfl; (exact Rd.any); exact l0) | (apply Still.load; rfl; rfl; (exact Rd.any); exact l1) | (apply Still.load; rfl; rfl; (exact Rd.any); exact l2) | (apply Still.load; rfl; rfl; (exact Rd.any); (first | rfl | exact flat_get0 (by assumption) | exact flat_get1 (by assumption) | exact flat_get2 (by assumption) | exact flat_get3 (by assumption) | exact flat_get4 (by assumption))) | (apply Still.loadAgg; rfl; rfl; (exact eqAuto); (exact Rd.any); (first | exact flat_take (by assumption) | rfl); rfl)); (first | exact hS | exact hS.tail | exact hS.sublist (by repeat (first | exact List.Sublist.refl _ | refine .cons_cons _ ?_ | refine .cons _ ?_))); rfl)
    all_goals (apply RH.take (i := 4) (listed := (bm 18 15)) (listed' := (bm 18 31)); rfl; kernel_rfl; kernel_rfl; (first | (exact Still.any) | (apply Still.indexAddrA; rfl; rfl; rfl; (exact eqAuto); omega; omega; (first | (simp only [Int.toNat_natCast, Nat.mul_one, Nat.zero_add, Int.reduceToNat, Nat.reduceMul, Nat.reduceAdd, Nat.zero_mul]; exact rfl) | rfl))); (first | exact hS | exact hS.tail | exact hS.sublist (by repeat (first | exact List.Sublist.refl _ | refine .cons_cons _ ?_ | refine .cons _ ?_))); rfl)
    all_goals (apply RH.take (i := 5) (listed := (bm 18 31)) (listed' := (bm 18 63)); rfl; kernel_rfl; kernel_rfl; (first | (apply Still.load; rfl; rfl; (exact Rd.any); exact l0) | (apply Still.load; rfl; rfl; (exact Rd.any); exact l1) | (apply Still.load; rfl; rfl; (exact Rd.any); exact l2) | (apply Still.load; rfl; rfl; (exact Rd.any); (first | rfl | exact flat_get0 (by assumption) | exact flat_get1 (by assumption) | exact flat_get2 (by assumption) | exact flat_get3 (by assumption) | exact flat_get4 (by assumption))) | (apply Still.loadAgg; rfl; rfl; (exact eqAuto); (exact Rd.any); (first | exact flat_take (by assumption) | rfl); rfl)); (first | exact hS | exact hS.tail | exact hS.sublist (by repeat (first | exact List.Sublist.refl _ | refine .cons_cons _ ?_ | refine .cons _ ?_))); rfl)
    all_goals (apply RH.take (i := 6) (listed := (bm 18 63)) (listed' := (bm 18 127)); rfl; kernel_rfl; kernel_rfl; (apply Still.move; rfl); (first | exact hS | exact hS.tail | exact hS.sublist (by repeat (first | exact List.Sublist.refl _ | refine .cons_cons _ ?_ | refine .cons _ ?_))); rfl)
    all_goals (apply RH.take (i := 7) (listed := (bm 18 127)) (listed' := (bm 18 255)); rfl; kernel_rfl; kernel_rfl; (apply Still.fieldAddr; rfl; (exact eqAuto)); (first | exact hS | exact hS.tail | exact hS.sublist (by repeat (first | exact List.Sublist.refl _ | refine .cons_cons _ ?_ | refine .cons _ ?_))); rfl)
    all_goals (apply RH.take (i := 8) (listed := (bm 18 255)) (listed' := (bm 18 511)); rfl; kernel_rfl; kernel_rfl; (first | (apply Still.load; rfl; rfl; (exact Rd.any); exact l0) | (apply Still.load; rfl; rfl; (exact Rd.any); exact l1) | (apply Still.load; rfl; rfl; (exact Rd.any); exact l2) | (apply Still.load; rfl; rfl; (exact Rd.any); (first | rfl | exact flat_get0 (by assumption) | exact flat_get1 (by assumption) | exact flat_get2 (by assumption) | exact flat_get3 (by assumption) | exact flat_get4 (by assumption))) | (apply Still.loadAgg; rfl; rfl; (exact eqAuto); (exact Rd.any); (first | exact flat_take (by assumption) | rfl); rfl)); (first | exact hS | exact hS.tail | exact hS.sublist (by repeat (first | exact List.Sublist.refl _ | refine .cons_cons _ ?_ | refine .cons _ ?_))); rfl)
    all_goals (apply RH.take (i := 9) (listed := (bm 18 511)) (listed' := (bm 18 1023)); rfl; kernel_rfl; kernel_rfl; (first | (exact Still.any) | (apply Still.indexAddrA; rfl; rfl; rfl; (exact eqAuto); omega; omega; (first | (simp only [Int.toNat_natCast, Nat.mul_one, Nat.zero_add, Int.reduceToNat, Nat.reduceMul, Nat.reduceAdd, Nat.zero_mul]; exact rfl) | rfl))); (first | exact hS | exact hS.tail | exact hS.sublist (by repeat (first | exact List.Sublist.refl _ | refine .cons_cons _ ?_ | refine .cons _ ?_))); rfl)
    all_goals (apply RH.take (i := 10) (listed := (bm 18 1023)) (listed' := (bm 18 2047)); rfl; kernel_rfl; kernel_rfl; (first | (apply Still.load; rfl; rfl; (exact Rd.any); exact l0) | (apply Still.load; rfl; rfl; (exact Rd.any); exact l1) | (apply Still.load; rfl; rfl; (exact Rd.any); exact l2) | (apply Still.load; rfl; rfl; (exact Rd.any); (first | rfl | exact flat_get0 (by assumption) | exact flat_get1 (by assumption) | exact flat_get2 (by assumption) | exact flat_get3 (by assumption) | exact flat_get4 (by assumption))) | (apply Still.loadAgg; rfl; rfl; (exact eqAuto); (exact Rd.any); (first | exact flat_take (by assumption) | rfl); rfl)); (first | exact hS | exact hS.tail | exact hS.sublist (by repeat (first | exact List.Sublist.refl _ | refine .cons_cons _ ?_ | refine .cons _ ?_))); rfl)
    all_goals
      apply RH.all1 (i := 11) (listed := (bm 18 2047))
      · kernel_rfl
      · apply RI.op (i := 11) (listed := (bm 18 2047)) (listed' := (bm 18 4095)); rfl; kernel_rfl
        all_goals try first
        | (apply OP.callF; rfl; rfl; rfl; show Cl _ 44 _ _ _; exact refShareS (x := x) (y := y) (hS.take (by focus ((repeat (first | apply Has.head | apply Take.head | apply Put.head | apply Has.tail | apply Take.tail | apply Put.tail)); done))); clear hS; rintro v w1 ⟨a', rfl, hsame, hS⟩; obtain ⟨r2, c2, rfl, hS⟩ := ra_eq hS; have hs2 := ra_same hsame; clear hsame; refine ⟨(by first | exact hS | exact hS.tail | exact hS.sublist (by repeat (first | exact List.Sublist.refl _ | refine .cons_cons _ ?_ | refine .cons _ ?_))), ?_⟩)
        | (refine OP.still (by exact Still.any) hS rfl ⟨(by first | exact hS | exact hS.tail | exact hS.sublist (by repeat (first | exact List.Sublist.refl _ | refine .cons_cons _ ?_ | refine .cons _ ?_))), ?_⟩)
        all_goals (apply RH.take (i := 12) (listed := (bm 18 4095)) (listed' := (bm 18 8191)); rfl; kernel_rfl; kernel_rfl; (apply Still.extract; rfl; rfl); (first | exact hS | exact hS.tail | exact hS.sublist (by repeat (first | exact List.Sublist.refl _ | refine .cons_cons _ ?_ | refine .cons _ ?_))); rfl)
        all_goals (apply RH.take (i := 13) (listed := (bm 18 8191)) (listed' := (bm 18 16383)); rfl; kernel_rfl; kernel_rfl; (apply Still.extract; rfl; rfl); (first | exact hS | exact hS.tail | exact hS.sublist (by repeat (first | exact List.Sublist.refl _ | refine .cons_cons _ ?_ | refine .cons _ ?_))); rfl)
        all_goals (apply RH.take (i := 14) (listed := (bm 18 16383)) (listed' := (bm 18 32767)); rfl; kernel_rfl; kernel_rfl; (apply Still.extract; rfl; rfl); (first | exact hS | exact hS.tail | exact hS.sublist (by repeat (first | exact List.Sublist.refl _ | refine .cons_cons _ ?_ | refine .cons _ ?_))); rfl)
        all_goals
          apply RH.all1 (i := 15) (listed := (bm 18 32767))
          · kernel_rfl
          · apply RI.op (i := 15) (listed := (bm 18 32767)) (listed' := (bm 18 65535)); rfl; kernel_rfl
            all_goals try first
            | (apply OP.store hS; rfl; rfl; rfl; rfl; rfl; (focus ((repeat (first | apply Has.head | apply Take.head | apply Put.head | apply Has.tail | apply Take.tail | apply Put.tail)); done)); rfl; rfl; clear hS; intro w1 hS; refine ⟨(by first | exact hS | exact hS.tail | exact hS.sublist (by repeat (first | exact List.Sublist.refl _ | refine .cons_cons _ ?_ | refine .cons _ ?_))), ?_⟩)
            all_goals (apply RH.take (i := 16) (listed := (bm 18 65535)) (listed' := (bm 18 131071)); rfl; kernel_rfl; kernel_rfl; (apply Still.assign; rfl); (first | exact hS | exact hS.tail | exact hS.sublist (by repeat (first | exact List.Sublist.refl _ | refine .cons_cons _ ?_ | refine .cons _ ?_))); rfl)
            all_goals (apply RH.take (i := 17) (listed := (bm 18 131071)) (listed' := (bm 18 262143)); rfl; kernel_rfl; kernel_rfl; (apply Still.assign; rfl); (first | exact hS | exact hS.tail | exact hS.sublist (by repeat (first | exact List.Sublist.refl _ | refine .cons_cons _ ?_ | refine .cons _ ?_))); rfl)
            all_goals (apply RH.done (listed := (bm 18 262143)); kernel_rfl)
            all_goals (exact ⟨⟨(r2, c2), hs2⟩, (by focus ((repeat (first | exact .nil | refine .cons rfl ?_)); done)), hS.picks (by focus ((repeat (first | apply Picks.all | apply Picks.nil | (refine Picks.cons (by repeat (first | apply Take.head | apply Take.tail)) ?_) | apply Picks.drop)); done))⟩)
  · clear hS
    rintro ⟨⟨r2, c2⟩, hs2⟩ w1 hS
    repeat' first
      | refine Run.seq ?_
      | refine Run.region ?_
      | (refine RO.split ?_ ?_ <;> intro hc <;> try (first | (exfalso; omega) | exact absurd rfl hc | exact Bool.noConfusion hc))
      | refine RO.nil ?_
      | refine RO.still (by exact Still.any) hS rfl ?_
      | (apply RO.op; apply OP.box hS; rfl; rfl; rfl; clear hS; intro b w1 hS)
      | (apply RO.op; apply OP.alloc hS; rfl; rfl; rfl; clear hS; intro b w1 hS)
      | (apply RO.op; apply OP.store hS; rfl; rfl; rfl; rfl; rfl; (focus ((repeat (first | apply Has.head | apply Take.head | apply Put.head | apply Has.tail | apply Take.tail | apply Put.tail)); done)); rfl; rfl; clear hS; intro w1 hS)
      | (apply RO.op; apply OP.buildSlice hS; rfl; rfl; (exact eqAuto); rfl; rfl; rfl; rfl; rfl; clear hS; intro b w1 hS)
      | (apply RO.op; apply OP.makeMap hS; rfl; clear hS; intro b w1 hS)
      | refine RO.yes rfl rfl ?_
      | refine RO.no rfl rfl rfl rfl ?_
      | refine RO.noUndef rfl rfl rfl ?_
      | refine RO.noNone rfl rfl rfl ?_
      | refine Run.cond_true rfl ?_
      | refine Run.cond_false rfl ?_
      | refine Run.skip ?_
      | refine Run.block ?_
      | refine Run.inBlock ?_
      | refine Run.exit rfl ?_
    refine Run.ret Try.func27 rfl (.cell rfl (by first | exact run_loadAgg rfl rfl (hS.rd (by exact Rd.any)) (by rfl) (by rfl) | exact run_loadScalar rfl (cell_of (hS.rd (by exact Rd.any)) (by rfl))) (.tmp rfl (.tmp rfl .nil))) ?_
    exact ⟨r2, c2, rfl, hs2, hS.picks (by focus ((repeat (first | apply Picks.all | apply Picks.nil | (refine Picks.cons (by repeat (first | apply Take.head | apply Take.tail)) ?_) | apply Picks.drop)); done))⟩

set_option maxHeartbeats 8000000 in
theorem refOne5 {zc x y : Int} {i j : Nat} (ha : aheadS ⟨5, 0, i, j, zc⟩ 2 made = true) (hi : i < made.length) (l0 : cells[i]? = some (.int .i64 x)) (hj : j < made.length) (l1 : cells[j]? = some (.int .i64 y)) (hl : Rd ρ F g (.cells cells.toArray 3 (0, 0)))
    (hS : St we ρ (RA (raV lim r L.length cap) lim L :: F) w) :
    Cl Try.prog 27 [raV lim r L.length cap, hv, .slice (some ⟨g, 0, none⟩) made.length cl0, .agg (stpL ⟨5, 0, i, j, zc⟩).toArray] w
      fun v w' => ∃ r' c', v = .tuple #[raV lim r' (mk lim L ⟨5, 0, x, y, 0⟩).1.length c', .int .i64 (mk lim L ⟨5, 0, x, y, 0⟩).2.1, .int .i64 (mk lim L ⟨5, 0, x, y, 0⟩).2.2] ∧ ((mk lim L ⟨5, 0, x, y, 0⟩).2.2 ≠ 0 → r' = r ∧ c' = cap) ∧
        St we ρ (RA (raV lim r' (mk lim L ⟨5, 0, x, y, 0⟩).1.length c') lim (mk lim L ⟨5, 0, x, y, 0⟩).1 :: F) w' := by
  have hah : ∀ {w : World} {σ : List HP}, St we ρ σ w → _ := fun {w σ} hS => refAhead (w := w) (σ := σ) (s := ⟨5, 0, i, j, zc⟩) (u := 2) (made := made) (by omega) hS
  simp only [ha] at hah
  show Cl _ _ [_, _, _, .agg [Value.int .i64 5, Value.int .u64 0, Value.int .i64 i, Value.int .i64 j, Value.int .i64 zc].toArray] _ _
  refine Run.calls4 (n := 364) Try.func27 rfl rfl rfl ?_
  have tok : True := trivial
  have tok2 : True := trivial
  repeat' first
    | (have _ := tok; clear tok; apply RO.op; apply OP.box hS; rfl; rfl; rfl; clear hS; intro b4 w1 hS)
    | (have _ := tok2; clear tok2; apply RO.op; apply OP.box hS; rfl; rfl; rfl; clear hS; intro b7 w1 hS)
    | (apply RO.op; apply OP.callF; rfl; rfl; rfl; show Cl _ 43 _ _ _; exact hah hS; clear hS; rintro v w1 ⟨rfl, hS⟩)
    | refine Run.seq ?_
    | refine Run.region ?_
    | (refine RO.split ?_ ?_ <;> intro hc <;> try (first | (exfalso; omega) | exact absurd rfl hc | exact Bool.noConfusion hc))
    | refine RO.nil ?_
    | refine RO.still (by exact Still.any) hS rfl ?_
    | (apply RO.op; apply OP.box hS; rfl; rfl; rfl; clear hS; intro b w1 hS)
    | (apply RO.op; apply OP.alloc hS; rfl; rfl; rfl; clear hS; intro b w1 hS)
    | (apply RO.op; apply OP.store hS; rfl; rfl; rfl; rfl; rfl; (focus ((repeat (first | apply Has.head | apply Take.head | apply Put.head | apply Has.tail | apply Take.tail | apply Put.tail)); done)); rfl; rfl; clear hS; intro w1 hS)
    | (apply RO.op; apply OP.buildSlice hS; rfl; rfl; (exact eqAuto); rfl; rfl; rfl; rfl; rfl; clear hS; intro b w1 hS)
    | (apply RO.op; apply OP.makeMap hS; rfl; clear hS; intro b w1 hS)
    | refine RO.yes rfl rfl ?_
    | refine RO.no rfl rfl rfl rfl ?_
    | refine RO.noUndef rfl rfl rfl ?_
    | refine RO.noNone rfl rfl rfl ?_
    | refine Run.cond_true rfl ?_
    | refine Run.cond_false rfl ?_
    | refine Run.skip ?_
    | refine Run.block ?_
    | refine Run.inBlock ?_
    | refine Run.exit rfl ?_
  replace hS : St we ρ (Row b7 [Value.int .i64 5, Value.int .u64 0, Value.int .i64 i, Value.int .i64 j, Value.int .i64 zc] 77 :: Row b4 [.int .i64 lim, .slice (some ⟨r, 0, none⟩) L.length cap] 29 :: Row b [.int .i64 0, .slice none 0 0] 29 :: RA (raV lim r L.length cap) lim L :: F) _ := hS.picks (by focus ((repeat (first | apply Picks.all | apply Picks.nil | (refine Picks.cons (by repeat (first | apply Take.head | apply Take.tail)) ?_) | apply Picks.drop)); done))
  refine (Run.regionH_cut (fun x1 : {x2 : Nat × Nat // (mk lim L ⟨5, 0, x, y, 0⟩).2.2 ≠ 0 → x2.1 = r ∧ x2.2 = cap} => Row b [.int .i64 lim, .slice (some ⟨x1.1.1, 0, none⟩) (mk lim L ⟨5, 0, x, y, 0⟩).1.length x1.1.2] 29 :: RA (raV lim x1.1.1 (mk lim L ⟨5, 0, x, y, 0⟩).1.length x1.1.2) lim (mk lim L ⟨5, 0, x, y, 0⟩).1 :: F)
    (fun _ => [(8, .pointer (some ⟨b, 0, none⟩)), (9, .int .i64 (mk lim L ⟨5, 0, x, y, 0⟩).2.1), (10, .int .i64 (mk lim L ⟨5, 0, x, y, 0⟩).2.2)])
    hS (.cons_cons _ (.cons_cons _ (.cons _ (.cons _ (List.Sublist.refl _))))) (by rfl) (by rfl) (by rfl) ?_ ?_)
  · clear hS
    intro w1 hS
    refine RH.relist (listed' := bm 21 0) (by kernel_rfl) ?_
    all_goals (apply RH.take (i := 0) (listed := (bm 21 0)) (listed' := (bm 21 1)); rfl; kernel_rfl; kernel_rfl; (first | (apply Still.load; rfl; rfl; (exact Rd.any); exact l0) | (apply Still.load; rfl; rfl; (exact Rd.any); exact l1) | (apply Still.load; rfl; rfl; (exact Rd.any); exact l2) | (apply Still.load; rfl; rfl; (exact Rd.any); (first | rfl | exact flat_get0 (by assumption) | exact flat_get1 (by assumption) | exact flat_get2 (by assumption) | exact flat_get3 (by assumption) | exact flat_get4 (by assumption))) | (apply Still.loadAgg; rfl; rfl; (exact eqAuto); (exact Rd.any); (first | exact flat_take (by assumption) | rfl); rfl)); (first | exact hS | exact hS.tail | exact hS.sublist (by repeat (first | exact List.Sublist.refl _ | refine .cons_cons _ ?_ | refine .cons _ ?_))); rfl)
    all_goals (apply RH.take (i := 1) (listed := (bm 21 1)) (listed' := (bm 21 3)); rfl; kernel_rfl; kernel_rfl; (apply Still.fieldAddr; rfl; (exact eqAuto)); (first | exact hS | exact hS.tail | exact hS.sublist (by repeat (first | exact List.Sublist.refl _ | refine .cons_cons _ ?_ | refine .cons _ ?_))); rfl)
    all_goals (apply RH.take (i := 2) (listed := (bm 21 3)) (listed' := (bm 21 7)); rfl; kernel_rfl; kernel_rfl; (first | (apply Still.load; rfl; rfl; (exact Rd.any); exact l0) | (apply Still.load; rfl; rfl; (exact Rd.any); exact l1) | (apply Still.load; rfl; rfl; (exact Rd.any); exact l2) | (apply Still.load; rfl; rfl; (exact Rd.any); (first | rfl | exact flat_get0 (by assumption) | exact flat_get1 (by assumption) | exact flat_get2 (by assumption) | exact flat_get3 (by assumption) | exact flat_get4 (by assumption))) | (apply Still.loadAgg; rfl; rfl; (exact eqAuto); (exact Rd.any); (first | exact flat_take (by assumption) | rfl); rfl)); (first | exact hS | exact hS.tail | exact hS.sublist (by repeat (first | exact List.Sublist.refl _ | refine .cons_cons _ ?_ | refine .cons _ ?_))); rfl)
    all_goals (apply RH.take (i := 3) (listed := (bm 21 7)) (listed' := (bm 21 15)); rfl; kernel_rfl; kernel_rfl; (apply Still.move; rfl); (first | exact hS | exact hS.tail | exact hS.sublist (by repeat (first | exact List.Sublist.refl _ | refine .cons_cons _ ?_ | refine .cons _ ?_))); rfl)
    all_goals (apply RH.take (i := 4) (listed := (bm 21 15)) (listed' := (bm 21 31)); rfl; kernel_rfl; kernel_rfl; (apply Still.fieldAddr; rfl; (exact eqAuto)); (first | exact hS | exact hS.tail | exact hS.sublist (by repeat (first | exact List.Sublist.refl _ | refine .cons_cons _ ?_ | refine .cons _ ?_))); rfl)
    all_goals (apply RH.take (i := 5) (listed := (bm 21 31)) (listed' := (bm 21 63)); rfl; kernel_rfl; kernel_rfl; (first | (apply Still.load; rfl; rfl; (exact Rd.any); exact l0) | (apply Still.load; rfl; rfl; (exact Rd.any); exact l1) | (apply Still.load; rfl; rfl; (exact Rd.any); exact l2) | (apply Still.load; rfl; rfl; (exact Rd.any); (first | rfl | exact flat_get0 (by assumption) | exact flat_get1 (by assumption) | exact flat_get2 (by assumption) | exact flat_get3 (by assumption) | exact flat_get4 (by assumption))) | (apply Still.loadAgg; rfl; rfl; (exact eqAuto); (exact Rd.any); (first | exact flat_take (by assumption) | rfl); rfl)); (first | exact hS | exact hS.tail | exact hS.sublist (by repeat (first | exact List.Sublist.refl _ | refine .cons_cons _ ?_ | refine .cons _ ?_))); rfl)
    all_goals (apply RH.take (i := 6) (listed := (bm 21 63)) (listed' := (bm 21 127)); rfl; kernel_rfl; kernel_rfl; (first | (exact Still.any) | (apply Still.indexAddrA; rfl; rfl; rfl; (exact eqAuto); omega; omega; (first | (simp only [Int.toNat_natCast, Nat.mul_one, Nat.zero_add, Int.reduceToNat, Nat.reduceMul, Nat.reduceAdd, Nat.zero_mul]; exact rfl) | rfl))); (first | exact hS | exact hS.tail | exact hS.sublist (by repeat (first | exact List.Sublist.refl _ | refine .cons_cons _ ?_ | refine .cons _ ?_))); rfl)
    all_goals (apply RH.take (i := 7) (listed := (bm 21 127)) (listed' := (bm 21 255)); rfl; kernel_rfl; kernel_rfl; (first | (apply Still.load; rfl; rfl; (exact Rd.any); exact l0) | (apply Still.load; rfl; rfl; (exact Rd.any); exact l1) | (apply Still.load; rfl; rfl; (exact Rd.any); exact l2) | (apply Still.load; rfl; rfl; (exact Rd.any); (first | rfl | exact flat_get0 (by assumption) | exact flat_get1 (by assumption) | exact flat_get2 (by assumption) | exact flat_get3 (by assumption) | exact flat_get4 (by assumption))) | (apply Still.loadAgg; rfl; rfl; (exact eqAuto); (exact Rd.any); (first | exact flat_take (by assumption) | rfl); rfl)); (first | exact hS | exact hS.tail | exact hS.sublist (by repeat (first | exact List.Sublist.refl _ | refine .cons_cons _ ?_ | refine .cons _ ?_))); rfl)
    all_goals (apply RH.take (i := 8) (listed := (bm 21 255)) (listed' := (bm 21 511)); rfl; kernel_rfl; kernel_rfl; (apply Still.move; rfl); (first | exact hS | exact hS.tail | exact hS.sublist (by repeat (first | exact List.Sublist.refl _ | refine .cons_cons _ ?_ | refine .cons _ ?_))); rfl)
    all_goals (apply RH.take (i := 9) (listed := (bm 21 511)) (listed' := (bm 21 1023)); rfl; kernel_rfl; kernel_rfl; (apply Still.fieldAddr; rfl; (exact eqAuto)); (first | exact hS | exact hS.tail | exact hS.sublist (by repeat (first | exact List.Sublist.refl _ | refine .cons_cons _ ?_ | refine .cons _ ?_))); rfl)
    all_goals (apply RH.take (i := 10) (listed := (bm 21 1023)) (listed' := (bm 21 2047)); rfl; kernel_rfl; kernel_rfl; (first | (apply Still.load; rfl; rfl; (exact Rd.any); exact l0) | (apply Still.load; rfl; rfl; (exact Rd.any); exact l1) | (apply Still.load; rfl; rfl; (exact Rd.any); exact l2) | (apply Still.load; rfl; rfl; (exact Rd.any); (first | rfl | exact flat_get0 (by assumption) | exact flat_get1 (by assumption) | exact flat_get2 (by assumption) | exact flat_get3 (by assumption) | exact flat_get4 (by assumption))) | (apply Still.loadAgg; rfl; rfl; (exact eqAuto); (exact Rd.any); (first | exact flat_take (by assumption) | rfl); rfl)); (first | exact hS | exact hS.tail | exact hS.sublist (by repeat (first | exact List.Sublist.refl _ | refine .cons_cons _ ?_ | refine .cons _ ?_))); rfl)
    all_goals (apply RH.take (i := 11) (listed := (bm 21 2047)) (listed' := (bm 21 4095)); rfl; kernel_rfl; kernel_rfl; (first | (exact Still.any) | (apply Still.indexAddrA; rfl; rfl; rfl; (exact eqAuto); omega; omega; (first | (simp only [Int.toNat_natCast, Nat.mul_one, Nat.zero_add, Int.reduceToNat, Nat.reduceMul, Nat.reduceAdd, Nat.zero_mul]; exact rfl) | rfl))); (first | exact hS | exact hS.tail | exact hS.sublist (by repeat (first | exact List.Sublist.refl _ | refine .cons_cons _ ?_ | refine .cons _ ?_))); rfl)
    all_goals (apply RH.take (i := 12) (listed := (bm 21 4095)) (listed' := (bm 21 8191)); rfl; kernel_rfl; kernel_rfl; (first | (apply Still.load; rfl; rfl; (exact Rd.any); exact l0) | (apply Still.load; rfl; rfl; (exact Rd.any); exact l1) | (apply Still.load; rfl; rfl; (exact Rd.any); exact l2) | (apply Still.load; rfl; rfl; (exact Rd.any); (first | rfl | exact flat_get0 (by assumption) | exact flat_get1 (by assumption) | exact flat_get2 (by assumption) | exact flat_get3 (by assumption) | exact flat_get4 (by assumption))) | (apply Still.loadAgg; rfl; rfl; (exact eqAuto); (exact Rd.any); (first | exact flat_take (by assumption) | rfl); rfl)); (first | exact hS | exact hS.tail | exact hS.sublist (by repeat (first | exact List.Sublist.refl _ | refine .cons_cons _ ?_ | refine .cons _ ?_))); rfl)
    all_goals (apply RH.take (i := 13) (listed := (bm 21 8191)) (listed' := (bm 21 16383)); rfl; kernel_rfl; kernel_rfl; (first | (apply Still.load; rfl; rfl; (exact Rd.any); exact l0) | (apply Still.load; rfl; rfl; (exact Rd.any); exact l1) | (apply Still.load; rfl; rfl; (exact Rd.any); exact l2) | (exact Still.any)); (first | exact hS | exact hS.tail | exact hS.sublist (by repeat (first | exact List.Sublist.refl _ | refine .cons_cons _ ?_ | refine .cons _ ?_))); rfl)
    all_goals
      apply RH.all1 (i := 14) (listed := (bm 21 16383))
      · kernel_rfl
      · apply RI.op (i := 14) (listed := (bm 21 16383)) (listed' := (bm 21 32767)); rfl; kernel_rfl
        all_goals try first
        | (apply OP.callF; rfl; rfl; rfl; show Cl _ 33 _ _ _; exact refMkS (n := ⟨5, 0, x, y, 0⟩) (hS.take (by focus ((repeat (first | apply Has.head | apply Take.head | apply Put.head | apply Has.tail | apply Take.tail | apply Put.tail)); done))); clear hS; rintro v w1 ⟨a', rfl, hsame, hS⟩; obtain ⟨r2, c2, rfl, hS⟩ := ra_eq hS; have hs2 := ra_same hsame; clear hsame; refine ⟨(by first | exact hS | exact hS.tail | exact hS.sublist (by repeat (first | exact List.Sublist.refl _ | refine .cons_cons _ ?_ | refine .cons _ ?_))), ?_⟩)
        | (refine OP.still (by exact Still.any) hS rfl ⟨(by first | exact hS | exact hS.tail | exact hS.sublist (by repeat (first | exact List.Sublist.refl _ | refine .cons_cons _ ?_ | refine .cons _ ?_))), ?_⟩)
        all_goals (apply RH.take (i := 15) (listed := (bm 21 32767)) (listed' := (bm 21 65535)); rfl; kernel_rfl; kernel_rfl; (apply Still.extract; rfl; rfl); (first | exact hS | exact hS.tail | exact hS.sublist (by repeat (first | exact List.Sublist.refl _ | refine .cons_cons _ ?_ | refine .cons _ ?_))); rfl)
        all_goals (apply RH.take (i := 16) (listed := (bm 21 65535)) (listed' := (bm 21 131071)); rfl; kernel_rfl; kernel_rfl; (apply Still.extract; rfl; rfl); (first | exact hS | exact hS.tail | exact hS.sublist (by repeat (first | exact List.Sublist.refl _ | refine .cons_cons _ ?_ | refine .cons _ ?_))); rfl)
        all_goals (apply RH.take (i := 17) (listed := (bm 21 131071)) (listed' := (bm 21 262143)); rfl; kernel_rfl; kernel_rfl; (apply Still.extract; rfl; rfl); (first | exact hS | exact hS.tail | exact hS.sublist (by repeat (first | exact List.Sublist.refl _ | refine .cons_cons _ ?_ | refine .cons _ ?_))); rfl)
        all_goals
          apply RH.all1 (i := 18) (listed := (bm 21 262143))
          · kernel_rfl
          · apply RI.op (i := 18) (listed := (bm 21 262143)) (listed' := (bm 21 524287)); rfl; kernel_rfl
            all_goals try first
            | (apply OP.store hS; rfl; rfl; rfl; rfl; rfl; (focus ((repeat (first | apply Has.head | apply Take.head | apply Put.head | apply Has.tail | apply Take.tail | apply Put.tail)); done)); rfl; rfl; clear hS; intro w1 hS; refine ⟨(by first | exact hS | exact hS.tail | exact hS.sublist (by repeat (first | exact List.Sublist.refl _ | refine .cons_cons _ ?_ | refine .cons _ ?_))), ?_⟩)
            all_goals (apply RH.take (i := 19) (listed := (bm 21 524287)) (listed' := (bm 21 1048575)); rfl; kernel_rfl; kernel_rfl; (apply Still.assign; rfl); (first | exact hS | exact hS.tail | exact hS.sublist (by repeat (first | exact List.Sublist.refl _ | refine .cons_cons _ ?_ | refine .cons _ ?_))); rfl)
            all_goals (apply RH.take (i := 20) (listed := (bm 21 1048575)) (listed' := (bm 21 2097151)); rfl; kernel_rfl; kernel_rfl; (apply Still.assign; rfl); (first | exact hS | exact hS.tail | exact hS.sublist (by repeat (first | exact List.Sublist.refl _ | refine .cons_cons _ ?_ | refine .cons _ ?_))); rfl)
            all_goals (apply RH.done (listed := (bm 21 2097151)); kernel_rfl)
            all_goals (exact ⟨⟨(r2, c2), hs2⟩, (by focus ((repeat (first | exact .nil | refine .cons rfl ?_)); done)), hS.picks (by focus ((repeat (first | apply Picks.all | apply Picks.nil | (refine Picks.cons (by repeat (first | apply Take.head | apply Take.tail)) ?_) | apply Picks.drop)); done))⟩)
  · clear hS
    rintro ⟨⟨r2, c2⟩, hs2⟩ w1 hS
    repeat' first
      | refine Run.seq ?_
      | refine Run.region ?_
      | (refine RO.split ?_ ?_ <;> intro hc <;> try (first | (exfalso; omega) | exact absurd rfl hc | exact Bool.noConfusion hc))
      | refine RO.nil ?_
      | refine RO.still (by exact Still.any) hS rfl ?_
      | (apply RO.op; apply OP.box hS; rfl; rfl; rfl; clear hS; intro b w1 hS)
      | (apply RO.op; apply OP.alloc hS; rfl; rfl; rfl; clear hS; intro b w1 hS)
      | (apply RO.op; apply OP.store hS; rfl; rfl; rfl; rfl; rfl; (focus ((repeat (first | apply Has.head | apply Take.head | apply Put.head | apply Has.tail | apply Take.tail | apply Put.tail)); done)); rfl; rfl; clear hS; intro w1 hS)
      | (apply RO.op; apply OP.buildSlice hS; rfl; rfl; (exact eqAuto); rfl; rfl; rfl; rfl; rfl; clear hS; intro b w1 hS)
      | (apply RO.op; apply OP.makeMap hS; rfl; clear hS; intro b w1 hS)
      | refine RO.yes rfl rfl ?_
      | refine RO.no rfl rfl rfl rfl ?_
      | refine RO.noUndef rfl rfl rfl ?_
      | refine RO.noNone rfl rfl rfl ?_
      | refine Run.cond_true rfl ?_
      | refine Run.cond_false rfl ?_
      | refine Run.skip ?_
      | refine Run.block ?_
      | refine Run.inBlock ?_
      | refine Run.exit rfl ?_
    refine Run.ret Try.func27 rfl (.cell rfl (by first | exact run_loadAgg rfl rfl (hS.rd (by exact Rd.any)) (by rfl) (by rfl) | exact run_loadScalar rfl (cell_of (hS.rd (by exact Rd.any)) (by rfl))) (.tmp rfl (.tmp rfl .nil))) ?_
    exact ⟨r2, c2, rfl, hs2, hS.picks (by focus ((repeat (first | apply Picks.all | apply Picks.nil | (refine Picks.cons (by repeat (first | apply Take.head | apply Take.tail)) ?_) | apply Picks.drop)); done))⟩

set_option maxHeartbeats 8000000 in
theorem refOne8 {zc x y : Int} {i j : Nat} (ha : aheadS ⟨8, 0, i, j, zc⟩ 2 made = true) (hi : i < made.length) (l0 : cells[i]? = some (.int .i64 x)) (hj : j < made.length) (l1 : cells[j]? = some (.int .i64 y)) (hl : Rd ρ F g (.cells cells.toArray 3 (0, 0)))
    (hS : St we ρ (RA (raV lim r L.length cap) lim L :: F) w) :
    Cl Try.prog 27 [raV lim r L.length cap, hv, .slice (some ⟨g, 0, none⟩) made.length cl0, .agg (stpL ⟨8, 0, i, j, zc⟩).toArray] w
      fun v w' => ∃ r' c', v = .tuple #[raV lim r' (mk lim L ⟨8, 0, x, y, 0⟩).1.length c', .int .i64 (mk lim L ⟨8, 0, x, y, 0⟩).2.1, .int .i64 (mk lim L ⟨8, 0, x, y, 0⟩).2.2] ∧ ((mk lim L ⟨8, 0, x, y, 0⟩).2.2 ≠ 0 → r' = r ∧ c' = cap) ∧
        St we ρ (RA (raV lim r' (mk lim L ⟨8, 0, x, y, 0⟩).1.length c') lim (mk lim L ⟨8, 0, x, y, 0⟩).1 :: F) w' := by
  have hah : ∀ {w : World} {σ : List HP}, St we ρ σ w → _ := fun {w σ} hS => refAhead (w := w) (σ := σ) (s := ⟨8, 0, i, j, zc⟩) (u := 2) (made := made) (by omega) hS
  simp only [ha] at hah
  show Cl _ _ [_, _, _, .agg [Value.int .i64 8, Value.int .u64 0, Value.int .i64 i, Value.int .i64 j, Value.int .i64 zc].toArray] _ _
  refine Run.calls4 (n := 364) Try.func27 rfl rfl rfl ?_
  have tok : True := trivial
  have tok2 : True := trivial
  repeat' first
    | (have _ := tok; clear tok; apply RO.op; apply OP.box hS; rfl; rfl; rfl; clear hS; intro b4 w1 hS)
    | (have _ := tok2; clear tok2; apply RO.op; apply OP.box hS; rfl; rfl; rfl; clear hS; intro b7 w1 hS)
    | (apply RO.op; apply OP.callF; rfl; rfl; rfl; show Cl _ 43 _ _ _; exact hah hS; clear hS; rintro v w1 ⟨rfl, hS⟩)
    | refine Run.seq ?_
    | refine Run.region ?_
    | (refine RO.split ?_ ?_ <;> intro hc <;> try (first | (exfalso; omega) | exact absurd rfl hc | exact Bool.noConfusion hc))
    | refine RO.nil ?_
    | refine RO.still (by exact Still.any) hS rfl ?_
    | (apply RO.op; apply OP.box hS; rfl; rfl; rfl; clear hS; intro b w1 hS)
    | (apply RO.op; apply OP.alloc hS; rfl; rfl; rfl; clear hS; intro b w1 hS)
    | (apply RO.op; apply OP.store hS; rfl; rfl; rfl; rfl; rfl; (focus ((repeat (first | apply Has.head | apply Take.head | apply Put.head | apply Has.tail | apply Take.tail | apply Put.tail)); done)); rfl; rfl; clear hS; intro w1 hS)
    | (apply RO.op; apply OP.buildSlice hS; rfl; rfl; (exact eqAuto); rfl; rfl; rfl; rfl; rfl; clear hS; intro b w1 hS)
    | (apply RO.op; apply OP.makeMap hS; rfl; clear hS; intro b w1 hS)
    | refine RO.yes rfl rfl ?_
    | refine RO.no rfl rfl rfl rfl ?_
    | refine RO.noUndef rfl rfl rfl ?_
    | refine RO.noNone rfl rfl rfl ?_
    | refine Run.cond_true rfl ?_
    | refine Run.cond_false rfl ?_
    | refine Run.skip ?_
    | refine Run.block ?_
    | refine Run.inBlock ?_
    | refine Run.exit rfl ?_
  replace hS : St we ρ (Row b7 [Value.int .i64 8, Value.int .u64 0, Value.int .i64 i, Value.int .i64 j, Value.int .i64 zc] 77 :: Row b4 [.int .i64 lim, .slice (some ⟨r, 0, none⟩) L.length cap] 29 :: Row b [.int .i64 0, .slice none 0 0] 29 :: RA (raV lim r L.length cap) lim L :: F) _ := hS.picks (by focus ((repeat (first | apply Picks.all | apply Picks.nil | (refine Picks.cons (by repeat (first | apply Take.head | apply Take.tail)) ?_) | apply Picks.drop)); done))
  refine (Run.regionH_cut (fun x1 : {x2 : Nat × Nat // (mk lim L ⟨8, 0, x, y, 0⟩).2.2 ≠ 0 → x2.1 = r ∧ x2.2 = cap} => Row b [.int .i64 lim, .slice (some ⟨x1.1.1, 0, none⟩) (mk lim L ⟨8, 0, x, y, 0⟩).1.length x1.1.2] 29 :: RA (raV lim x1.1.1 (mk lim L ⟨8, 0, x, y, 0⟩).1.length x1.1.2) lim (mk lim L ⟨8, 0, x, y, 0⟩).1 :: F)
    (fun _ => [(8, .pointer (some ⟨b, 0, none⟩)), (9, .int .i64 (mk lim L ⟨8, 0, x, y, 0⟩).2.1), (10, .int .i64 (mk lim L ⟨8, 0, x, y, 0⟩).2.2)])
    hS (.cons_cons _ (.cons_cons _ (.cons _ (.cons _ (List.Sublist.refl _))))) (by rfl) (by rfl) (by rfl) ?_ ?_)
  · clear hS
    intro w1 hS
    refine RH.relist (listed' := bm 21 0) (by kernel_rfl) ?_
    all_goals (apply RH.take (i := 0) (listed := (bm 21 0)) (listed' := (bm 21 1)); rfl; kernel_rfl; kernel_rfl; (first | (apply Still.load; rfl; rfl; (exact Rd.any); exact l0) | (apply Still.load; rfl; rfl; (exact Rd.any); exact l1) | (apply Still.load; rfl; rfl; (exact Rd.any); exact l2) | (apply Still.load; rfl; rfl; (exact Rd.any); (first | rfl | exact flat_get0 (by assumption) | exact flat_get1 (by assumption) | exact flat_get2 (by assumption) | exact flat_get3 (by assumption) | exact flat_get4 (by assumption))) | (apply Still.loadAgg; rfl; rfl; (exact eqAuto); (exact Rd.any); (first | exact flat_take (by assumption) | rfl); rfl)); (first | exact hS | exact hS.tail | exact hS.sublist (by repeat (first | exact List.Sublist.refl _ | refine .cons_cons _ ?_ | refine .cons _ ?_))); rfl)
    all_goals (apply RH.take (i := 1) (listed := (bm 21 1)) (listed' := (bm 21 3)); rfl; kernel_rfl; kernel_rfl; (apply Still.fieldAddr; rfl; (exact eqAuto)); (first | exact hS | exact hS.tail | exact hS.sublist (by repeat (first | exact List.Sublist.refl _ | refine .cons_cons _ ?_ | refine .cons _ ?_))); rfl)
    all_goals (apply RH.take (i := 2) (listed := (bm 21 3)) (listed' := (bm 21 7)); rfl; kernel_rfl; kernel_rfl; (first | (apply Still.load; rfl; rfl; (exact Rd.any); exact l0) | (apply Still.load; rfl; rfl; (exact Rd.any); exact l1) | (apply Still.load; rfl; rfl; (exact Rd.any); exact l2) | (apply Still.load; rfl; rfl; (exact Rd.any); (first | rfl | exact flat_get0 (by assumption) | exact flat_get1 (by assumption) | exact flat_get2 (by assumption) | exact flat_get3 (by assumption) | exact flat_get4 (by assumption))) | (apply Still.loadAgg; rfl; rfl; (exact eqAuto); (exact Rd.any); (first | exact flat_take (by assumption) | rfl); rfl)); (first | exact hS | exact hS.tail | exact hS.sublist (by repeat (first | exact List.Sublist.refl _ | refine .cons_cons _ ?_ | refine .cons _ ?_))); rfl)
    all_goals (apply RH.take (i := 3) (listed := (bm 21 7)) (listed' := (bm 21 15)); rfl; kernel_rfl; kernel_rfl; (apply Still.move; rfl); (first | exact hS | exact hS.tail | exact hS.sublist (by repeat (first | exact List.Sublist.refl _ | refine .cons_cons _ ?_ | refine .cons _ ?_))); rfl)
    all_goals (apply RH.take (i := 4) (listed := (bm 21 15)) (listed' := (bm 21 31)); rfl; kernel_rfl; kernel_rfl; (apply Still.fieldAddr; rfl; (exact eqAuto)); (first | exact hS | exact hS.tail | exact hS.sublist (by repeat (first | exact List.Sublist.refl _ | refine .cons_cons _ ?_ | refine .cons _ ?_))); rfl)
    all_goals (apply RH.take (i := 5) (listed := (bm 21 31)) (listed' := (bm 21 63)); rfl; kernel_rfl; kernel_rfl; (first | (apply Still.load; rfl; rfl; (exact Rd.any); exact l0) | (apply Still.load; rfl; rfl; (exact Rd.any); exact l1) | (apply Still.load; rfl; rfl; (exact Rd.any); exact l2) | (apply Still.load; rfl; rfl; (exact Rd.any); (first | rfl | exact flat_get0 (by assumption) | exact flat_get1 (by assumption) | exact flat_get2 (by assumption) | exact flat_get3 (by assumption) | exact flat_get4 (by assumption))) | (apply Still.loadAgg; rfl; rfl; (exact eqAuto); (exact Rd.any); (first | exact flat_take (by assumption) | rfl); rfl)); (first | exact hS | exact hS.tail | exact hS.sublist (by repeat (first | exact List.Sublist.refl _ | refine .cons_cons _ ?_ | refine .cons _ ?_))); rfl)
    all_goals (apply RH.take (i := 6) (listed := (bm 21 63)) (listed' := (bm 21 127)); rfl; kernel_rfl; kernel_rfl; (first | (exact Still.any) | (apply Still.indexAddrA; rfl; rfl; rfl; (exact eqAuto); omega; omega; (first | (simp only [Int.toNat_natCast, Nat.mul_one, Nat.zero_add, Int.reduceToNat, Nat.reduceMul, Nat.reduceAdd, Nat.zero_mul]; exact rfl) | rfl))); (first | exact hS | exact hS.tail | exact hS.sublist (by repeat (first | exact List.Sublist.refl _ | refine .cons_cons _ ?_ | refine .cons _ ?_))); rfl)
    all_goals (apply RH.take (i := 7) (listed := (bm 21 127)) (listed' := (bm 21 255)); rfl; kernel_rfl; kernel_rfl; (first | (apply Still.load; rfl; rfl; (exact Rd.any); exact l0) | (apply Still.load; rfl; rfl; (exact Rd.any); exact l1) | (apply Still.load; rfl; rfl; (exact Rd.any); exact l2) | (apply Still.load; rfl; rfl; (exact Rd.any); (first | rfl | exact flat_get0 (by assumption) | exact flat_get1 (by assumption) | exact flat_get2 (by assumption) | exact flat_get3 (by assumption) | exact flat_get4 (by assumption))) | (apply Still.loadAgg; rfl; rfl; (exact eqAuto); (exact Rd.any); (first | exact flat_take (by assumption) | rfl); rfl)); (first | exact hS | exact hS.tail | exact hS.sublist (by repeat (first | exact List.Sublist.refl _ | refine .cons_cons _ ?_ | refine .cons _ ?_))); rfl)
    all_goals (apply RH.take (i := 8) (listed := (bm 21 255)) (listed' := (bm 21 511)); rfl; kernel_rfl; kernel_rfl; (apply Still.move; rfl); (first | exact hS | exact hS.tail | exact hS.sublist (by repeat (first | exact List.Sublist.refl _ | refine .cons_cons _ ?_ | refine .cons _ ?_))); rfl)
    all_goals (apply RH.take (i := 9) (listed := (bm 21 511)) (listed' := (bm 21 1023)); rfl; kernel_rfl; kernel_rfl; (apply Still.fieldAddr; rfl; (exact eqAuto)); (first | exact hS | exact hS.tail | exact hS.sublist (by repeat (first | exact List.Sublist.refl _ | refine .cons_cons _ ?_ | refine .cons _ ?_))); rfl)
    all_goals (apply RH.take (i := 10) (listed := (bm 21 1023)) (listed' := (bm 21 2047)); rfl; kernel_rfl; kernel_rfl; (first | (apply Still.load; rfl; rfl; (exact Rd.any); exact l0) | (apply Still.load; rfl; rfl; (exact Rd.any); exact l1) | (apply Still.load; rfl; rfl; (exact Rd.any); exact l2) | (apply Still.load; rfl; rfl; (exact Rd.any); (first | rfl | exact flat_get0 (by assumption) | exact flat_get1 (by assumption) | exact flat_get2 (by assumption) | exact flat_get3 (by assumption) | exact flat_get4 (by assumption))) | (apply Still.loadAgg; rfl; rfl; (exact eqAuto); (exact Rd.any); (first | exact flat_take (by assumption) | rfl); rfl)); (first | exact hS | exact hS.tail | exact hS.sublist (by repeat (first | exact List.Sublist.refl _ | refine .cons_cons _ ?_ | refine .cons _ ?_))); rfl)
    all_goals (apply RH.take (i := 11) (listed := (bm 21 2047)) (listed' := (bm 21 4095)); rfl; kernel_rfl; kernel_rfl; (first | (exact Still.any) | (apply Still.indexAddrA; rfl; rfl; rfl; (exact eqAuto); omega; omega; (first | (simp only [Int.toNat_natCast, Nat.mul_one, Nat.zero_add, Int.reduceToNat, Nat.reduceMul, Nat.reduceAdd, Nat.zero_mul]; exact rfl) | rfl))); (first | exact hS | exact hS.tail | exact hS.sublist (by repeat (first | exact List.Sublist.refl _ | refine .cons_cons _ ?_ | refine .cons _ ?_))); rfl)
    all_goals (apply RH.take (i := 12) (listed := (bm 21 4095)) (listed' := (bm 21 8191)); rfl; kernel_rfl; kernel_rfl; (first | (apply Still.load; rfl; rfl; (exact Rd.any); exact l0) | (apply Still.load; rfl; rfl; (exact Rd.any); exact l1) | (apply Still.load; rfl; rfl; (exact Rd.any); exact l2) | (apply Still.load; rfl; rfl; (exact Rd.any); (first | rfl | exact flat_get0 (by assumption) | exact flat_get1 (by assumption) | exact flat_get2 (by assumption) | exact flat_get3 (by assumption) | exact flat_get4 (by assumption))) | (apply Still.loadAgg; rfl; rfl; (exact eqAuto); (exact Rd.any); (first | exact flat_take (by assumption) | rfl); rfl)); (first | exact hS | exact hS.tail | exact hS.sublist (by repeat (first | exact List.Sublist.refl _ | refine .cons_cons _ ?_ | refine .cons _ ?_))); rfl)
    all_goals (apply RH.take (i := 13) (listed := (bm 21 8191)) (listed' := (bm 21 16383)); rfl; kernel_rfl; kernel_rfl; (first | (apply Still.load; rfl; rfl; (exact Rd.any); exact l0) | (apply Still.load; rfl; rfl; (exact Rd.any); exact l1) | (apply Still.load; rfl; rfl; (exact Rd.any); exact l2) | (exact Still.any)); (first | exact hS | exact hS.tail | exact hS.sublist (by repeat (first | exact List.Sublist.refl _ | refine .cons_cons _ ?_ | refine .cons _ ?_))); rfl)
    all_goals
      apply RH.all1 (i := 14) (listed := (bm 21 16383))
      · kernel_rfl
      · apply RI.op (i := 14) (listed := (bm 21 16383)) (listed' := (bm 21 32767)); rfl; kernel_rfl
        all_goals try first
        | (apply OP.callF; rfl; rfl; rfl; show Cl _ 33 _ _ _; exact refMkS (n := ⟨8, 0, x, y, 0⟩) (hS.take (by focus ((repeat (first | apply Has.head | apply Take.head | apply Put.head | apply Has.tail | apply Take.tail | apply Put.tail)); done))); clear hS; rintro v w1 ⟨a', rfl, hsame, hS⟩; obtain ⟨r2, c2, rfl, hS⟩ := ra_eq hS; have hs2 := ra_same hsame; clear hsame; refine ⟨(by first | exact hS | exact hS.tail | exact hS.sublist (by repeat (first | exact List.Sublist.refl _ | refine .cons_cons _ ?_ | refine .cons _ ?_))), ?_⟩)
        | (refine OP.still (by exact Still.any) hS rfl ⟨(by first | exact hS | exact hS.tail | exact hS.sublist (by repeat (first | exact List.Sublist.refl _ | refine .cons_cons _ ?_ | refine .cons _ ?_))), ?_⟩)
        all_goals (apply RH.take (i := 15) (listed := (bm 21 32767)) (listed' := (bm 21 65535)); rfl; kernel_rfl; kernel_rfl; (apply Still.extract; rfl; rfl); (first | exact hS | exact hS.tail | exact hS.sublist (by repeat (first | exact List.Sublist.refl _ | refine .cons_cons _ ?_ | refine .cons _ ?_))); rfl)
        all_goals (apply RH.take (i := 16) (listed := (bm 21 65535)) (listed' := (bm 21 131071)); rfl; kernel_rfl; kernel_rfl; (apply Still.extract; rfl; rfl); (first | exact hS | exact hS.tail | exact hS.sublist (by repeat (first | exact List.Sublist.refl _ | refine .cons_cons _ ?_ | refine .cons _ ?_))); rfl)
        all_goals (apply RH.take (i := 17) (listed := (bm 21 131071)) (listed' := (bm 21 262143)); rfl; kernel_rfl; kernel_rfl; (apply Still.extract; rfl; rfl); (first | exact hS | exact hS.tail | exact hS.sublist (by repeat (first | exact List.Sublist.refl _ | refine .cons_cons _ ?_ | refine .cons _ ?_))); rfl)
        all_goals
          apply RH.all1 (i := 18) (listed := (bm 21 262143))
          · kernel_rfl
          · apply RI.op (i := 18) (listed := (bm 21 262143)) (listed' := (bm 21 524287)); rfl; kernel_rfl
            all_goals try first
            | (apply OP.store hS; rfl; rfl; rfl; rfl; rfl; (focus ((repeat (first | apply Has.head | apply Take.head | apply Put.head | apply Has.tail | apply Take.tail | apply Put.tail)); done)); rfl; rfl; clear hS; intro w1 hS; refine ⟨(by first | exact hS | exact hS.tail | exact hS.sublist (by repeat (first | exact List.Sublist.refl _ | refine .cons_cons _ ?_ | refine .cons _ ?_))), ?_⟩)
            all_goals (apply RH.take (i := 19) (listed := (bm 21 524287)) (listed' := (bm 21 1048575)); rfl; kernel_rfl; kernel_rfl; (apply Still.assign; rfl); (first | exact hS | exact hS.tail | exact hS.sublist (by repeat (first | exact List.Sublist.refl _ | refine .cons_cons _ ?_ | refine .cons _ ?_))); rfl)
            all_goals (apply RH.take (i := 20) (listed := (bm 21 1048575)) (listed' := (bm 21 2097151)); rfl; kernel_rfl; kernel_rfl; (apply Still.assign; rfl); (first | exact hS | exact hS.tail | exact hS.sublist (by repeat (first | exact List.Sublist.refl _ | refine .cons_cons _ ?_ | refine .cons _ ?_))); rfl)
            all_goals (apply RH.done (listed := (bm 21 2097151)); kernel_rfl)
            all_goals (exact ⟨⟨(r2, c2), hs2⟩, (by focus ((repeat (first | exact .nil | refine .cons rfl ?_)); done)), hS.picks (by focus ((repeat (first | apply Picks.all | apply Picks.nil | (refine Picks.cons (by repeat (first | apply Take.head | apply Take.tail)) ?_) | apply Picks.drop)); done))⟩)
  · clear hS
    rintro ⟨⟨r2, c2⟩, hs2⟩ w1 hS
    repeat' first
      | refine Run.seq ?_
      | refine Run.region ?_
      | (refine RO.split ?_ ?_ <;> intro hc <;> try (first | (exfalso; omega) | exact absurd rfl hc | exact Bool.noConfusion hc))
      | refine RO.nil ?_
      | refine RO.still (by exact Still.any) hS rfl ?_
      | (apply RO.op; apply OP.box hS; rfl; rfl; rfl; clear hS; intro b w1 hS)
      | (apply RO.op; apply OP.alloc hS; rfl; rfl; rfl; clear hS; intro b w1 hS)
      | (apply RO.op; apply OP.store hS; rfl; rfl; rfl; rfl; rfl; (focus ((repeat (first | apply Has.head | apply Take.head | apply Put.head | apply Has.tail | apply Take.tail | apply Put.tail)); done)); rfl; rfl; clear hS; intro w1 hS)
      | (apply RO.op; apply OP.buildSlice hS; rfl; rfl; (exact eqAuto); rfl; rfl; rfl; rfl; rfl; clear hS; intro b w1 hS)
      | (apply RO.op; apply OP.makeMap hS; rfl; clear hS; intro b w1 hS)
      | refine RO.yes rfl rfl ?_
      | refine RO.no rfl rfl rfl rfl ?_
      | refine RO.noUndef rfl rfl rfl ?_
      | refine RO.noNone rfl rfl rfl ?_
      | refine Run.cond_true rfl ?_
      | refine Run.cond_false rfl ?_
      | refine Run.skip ?_
      | refine Run.block ?_
      | refine Run.inBlock ?_
      | refine Run.exit rfl ?_
    refine Run.ret Try.func27 rfl (.cell rfl (by first | exact run_loadAgg rfl rfl (hS.rd (by exact Rd.any)) (by rfl) (by rfl) | exact run_loadScalar rfl (cell_of (hS.rd (by exact Rd.any)) (by rfl))) (.tmp rfl (.tmp rfl .nil))) ?_
    exact ⟨r2, c2, rfl, hs2, hS.picks (by focus ((repeat (first | apply Picks.all | apply Picks.nil | (refine Picks.cons (by repeat (first | apply Take.head | apply Take.tail)) ?_) | apply Picks.drop)); done))⟩

set_option maxHeartbeats 8000000 in
theorem refOne6 {zc x y n : Int} {i j : Nat} (hn1 : 1 ≤ n) (hn4 : n ≤ 4) (ha : aheadS ⟨6, n, i, j, zc⟩ 2 made = true) (hi : i < made.length) (l0 : cells[i]? = some (.int .i64 x)) (hj : j < made.length) (l1 : cells[j]? = some (.int .i64 y)) (hl : Rd ρ F g (.cells cells.toArray 3 (0, 0)))
    (hS : St we ρ (RA (raV lim r L.length cap) lim L :: F) w) :
    Cl Try.prog 27 [raV lim r L.length cap, hv, .slice (some ⟨g, 0, none⟩) made.length cl0, .agg (stpL ⟨6, n, i, j, zc⟩).toArray] w
      fun v w' => ∃ r' c', v = .tuple #[raV lim r' (mk lim L ⟨6, n, x, y, 0⟩).1.length c', .int .i64 (mk lim L ⟨6, n, x, y, 0⟩).2.1, .int .i64 (mk lim L ⟨6, n, x, y, 0⟩).2.2] ∧ ((mk lim L ⟨6, n, x, y, 0⟩).2.2 ≠ 0 → r' = r ∧ c' = cap) ∧
        St we ρ (RA (raV lim r' (mk lim L ⟨6, n, x, y, 0⟩).1.length c') lim (mk lim L ⟨6, n, x, y, 0⟩).1 :: F) w' := by
  have hah : ∀ {w : World} {σ : List HP}, St we ρ σ w → _ := fun {w σ} hS => refAhead (w := w) (σ := σ) (s := ⟨6, n, i, j, zc⟩) (u := 2) (made := made) (by omega) hS
  simp only [ha] at hah
  show Cl _ _ [_, _, _, .agg [Value.int .i64 6, Value.int .u64 n, Value.int .i64 i, Value.int .i64 j, Value.int .i64 zc].toArray] _ _
  refine Run.calls4 (n := 364) Try.func27 rfl rfl rfl ?_
  have tok : True := trivial
  have tok2 : True := trivial
  repeat' first
    | (have _ := tok; clear tok; apply RO.op; apply OP.box hS; rfl; rfl; rfl; clear hS; intro b4 w1 hS)
    | (have _ := tok2; clear tok2; apply RO.op; apply OP.box hS; rfl; rfl; rfl; clear hS; intro b7 w1 hS)
    | (apply RO.op; apply OP.callF; rfl; rfl; rfl; show Cl _ 43 _ _ _; exact hah hS; clear hS; rintro v w1 ⟨rfl, hS⟩)
    | refine Run.seq ?_
    | refine Run.region ?_
    | (refine RO.split ?_ ?_ <;> intro hc <;> try (first | (exfalso; omega) | exact absurd rfl hc | exact Bool.noConfusion hc))
    | refine RO.nil ?_
    | refine RO.still (by exact Still.any) hS rfl ?_
    | (apply RO.op; apply OP.box hS; rfl; rfl; rfl; clear hS; intro b w1 hS)
    | (apply RO.op; apply OP.alloc hS; rfl; rfl; rfl; clear hS; intro b w1 hS)
    | (apply RO.op; apply OP.store hS; rfl; rfl; rfl; rfl; rfl; (focus ((repeat (first | apply Has.head | apply Take.head | apply Put.head | apply Has.tail | apply Take.tail | apply Put.tail)); done)); rfl; rfl; clear hS; intro w1 hS)
    | (apply RO.op; apply OP.buildSlice hS; rfl; rfl; (exact eqAuto); rfl; rfl; rfl; rfl; rfl; clear hS; intro b w1 hS)
    | (apply RO.op; apply OP.makeMap hS; rfl; clear hS; intro b w1 hS)
    | refine RO.yes rfl rfl ?_
    | refine RO.no rfl rfl rfl rfl ?_
    | refine RO.noUndef rfl rfl rfl ?_
    | refine RO.noNone rfl rfl rfl ?_
    | refine Run.cond_true rfl ?_
    | refine Run.cond_false rfl ?_
    | refine Run.skip ?_
    | refine Run.block ?_
    | refine Run.inBlock ?_
    | refine Run.exit rfl ?_
  replace hS : St we ρ (Row b7 [Value.int .i64 6, Value.int .u64 n, Value.int .i64 i, Value.int .i64 j, Value.int .i64 zc] 77 :: Row b4 [.int .i64 lim, .slice (some ⟨r, 0, none⟩) L.length cap] 29 :: Row b [.int .i64 0, .slice none 0 0] 29 :: RA (raV lim r L.length cap) lim L :: F) _ := hS.picks (by focus ((repeat (first | apply Picks.all | apply Picks.nil | (refine Picks.cons (by repeat (first | apply Take.head | apply Take.tail)) ?_) | apply Picks.drop)); done))
  refine (Run.regionH_cut (fun x1 : {x2 : Nat × Nat // (mk lim L ⟨6, n, x, y, 0⟩).2.2 ≠ 0 → x2.1 = r ∧ x2.2 = cap} => Row b [.int .i64 lim, .slice (some ⟨x1.1.1, 0, none⟩) (mk lim L ⟨6, n, x, y, 0⟩).1.length x1.1.2] 29 :: RA (raV lim x1.1.1 (mk lim L ⟨6, n, x, y, 0⟩).1.length x1.1.2) lim (mk lim L ⟨6, n, x, y, 0⟩).1 :: F)
    (fun _ => [(8, .pointer (some ⟨b, 0, none⟩)), (9, .int .i64 (mk lim L ⟨6, n, x, y, 0⟩).2.1), (10, .int .i64 (mk lim L ⟨6, n, x, y, 0⟩).2.2)])
    hS (.cons_cons _ (.cons_cons _ (.cons _ (.cons _ (List.Sublist.refl _))))) (by rfl) (by rfl) (by rfl) ?_ ?_)
  · clear hS
    intro w1 hS
    refine RH.relist (listed' := bm 21 0) (by kernel_rfl) ?_
    all_goals (apply RH.take (i := 0) (listed := (bm 21 0)) (listed' := (bm 21 1)); rfl; kernel_rfl; kernel_rfl; (first | (apply Still.load; rfl; rfl; (exact Rd.any); exact l0) | (apply Still.load; rfl; rfl; (exact Rd.any); exact l1) | (apply Still.load; rfl; rfl; (exact Rd.any); exact l2) | (apply Still.load; rfl; rfl; (exact Rd.any); (first | rfl | exact flat_get0 (by assumption) | exact flat_get1 (by assumption) | exact flat_get2 (by assumption) | exact flat_get3 (by assumption) | exact flat_get4 (by assumption))) | (apply Still.loadAgg; rfl; rfl; (exact eqAuto); (exact Rd.any); (first | exact flat_take (by assumption) | rfl); rfl)); (first | exact hS | exact hS.tail | exact hS.sublist (by repeat (first | exact List.Sublist.refl _ | refine .cons_cons _ ?_ | refine .cons _ ?_))); rfl)
    all_goals (apply RH.take (i := 1) (listed := (bm 21 1)) (listed' := (bm 21 3)); rfl; kernel_rfl; kernel_rfl; (apply Still.fieldAddr; rfl; (exact eqAuto)); (first | exact hS | exact hS.tail | exact hS.sublist (by repeat (first | exact List.Sublist.refl _ | refine .cons_cons _ ?_ | refine .cons _ ?_))); rfl)
    all_goals (apply RH.take (i := 2) (listed := (bm 21 3)) (listed' := (bm 21 7)); rfl; kernel_rfl; kernel_rfl; (first | (apply Still.load; rfl; rfl; (exact Rd.any); exact l0) | (apply Still.load; rfl; rfl; (exact Rd.any); exact l1) | (apply Still.load; rfl; rfl; (exact Rd.any); exact l2) | (apply Still.load; rfl; rfl; (exact Rd.any); (first | rfl | exact flat_get0 (by assumption) | exact flat_get1 (by assumption) | exact flat_get2 (by assumption) | exact flat_get3 (by assumption) | exact flat_get4 (by assumption))) | (apply Still.loadAgg; rfl; rfl; (exact eqAuto); (exact Rd.any); (first | exact flat_take (by assumption) | rfl); rfl)); (first | exact hS | exact hS.tail | exact hS.sublist (by repeat (first | exact List.Sublist.refl _ | refine .cons_cons _ ?_ | refine .cons _ ?_))); rfl)
    all_goals (apply RH.take (i := 3) (listed := (bm 21 7)) (listed' := (bm 21 15)); rfl; kernel_rfl; kernel_rfl; (apply Still.move; rfl); (first | exact hS | exact hS.tail | exact hS.sublist (by repeat (first | exact List.Sublist.refl _ | refine .cons_cons _ ?_ | refine .cons _ ?_))); rfl)
    all_goals (apply RH.take (i := 4) (listed := (bm 21 15)) (listed' := (bm 21 31)); rfl; kernel_rfl; kernel_rfl; (apply Still.fieldAddr; rfl; (exact eqAuto)); (first | exact hS | exact hS.tail | exact hS.sublist (by repeat (first | exact List.Sublist.refl _ | refine .cons_cons _ ?_ | refine .cons _ ?_))); rfl)
    all_goals (apply RH.take (i := 5) (listed := (bm 21 31)) (listed' := (bm 21 63)); rfl; kernel_rfl; kernel_rfl; (first | (apply Still.load; rfl; rfl; (exact Rd.any); exact l0) | (apply Still.load; rfl; rfl; (exact Rd.any); exact l1) | (apply Still.load; rfl; rfl; (exact Rd.any); exact l2) | (apply Still.load; rfl; rfl; (exact Rd.any); (first | rfl | exact flat_get0 (by assumption) | exact flat_get1 (by assumption) | exact flat_get2 (by assumption) | exact flat_get3 (by assumption) | exact flat_get4 (by assumption))) | (apply Still.loadAgg; rfl; rfl; (exact eqAuto); (exact Rd.any); (first | exact flat_take (by assumption) | rfl); rfl)); (first | exact hS | exact hS.tail | exact hS.sublist (by repeat (first | exact List.Sublist.refl _ | refine .cons_cons _ ?_ | refine .cons _ ?_))); rfl)
    all_goals (apply RH.take (i := 6) (listed := (bm 21 63)) (listed' := (bm 21 127)); rfl; kernel_rfl; kernel_rfl; (first | (exact Still.any) | (apply Still.indexAddrA; rfl; rfl; rfl; (exact eqAuto); omega; omega; (first | (simp only [Int.toNat_natCast, Nat.mul_one, Nat.zero_add, Int.reduceToNat, Nat.reduceMul, Nat.reduceAdd, Nat.zero_mul]; exact rfl) | rfl))); (first | exact hS | exact hS.tail | exact hS.sublist (by repeat (first | exact List.Sublist.refl _ | refine .cons_cons _ ?_ | refine .cons _ ?_))); rfl)
    all_goals (apply RH.take (i := 7) (listed := (bm 21 127)) (listed' := (bm 21 255)); rfl; kernel_rfl; kernel_rfl; (first | (apply Still.load; rfl; rfl; (exact Rd.any); exact l0) | (apply Still.load; rfl; rfl; (exact Rd.any); exact l1) | (apply Still.load; rfl; rfl; (exact Rd.any); exact l2) | (apply Still.load; rfl; rfl; (exact Rd.any); (first | rfl | exact flat_get0 (by assumption) | exact flat_get1 (by assumption) | exact flat_get2 (by assumption) | exact flat_get3 (by assumption) | exact flat_get4 (by assumption))) | (apply Still.loadAgg; rfl; rfl; (exact eqAuto); (exact Rd.any); (first | exact flat_take (by assumption) | rfl); rfl)); (first | exact hS | exact hS.tail | exact hS.sublist (by repeat (first | exact List.Sublist.refl _ | refine .cons_cons _ ?_ | refine .cons _ ?_))); rfl)
    all_goals (apply RH.take (i := 8) (listed := (bm 21 255)) (listed' := (bm 21 511)); rfl; kernel_rfl; kernel_rfl; (apply Still.move; rfl); (first | exact hS | exact hS.tail | exact hS.sublist (by repeat (first | exact List.Sublist.refl _ | refine .cons_cons _ ?_ | refine .cons _ ?_))); rfl)
    all_goals (apply RH.take (i := 9) (listed := (bm 21 511)) (listed' := (bm 21 1023)); rfl; kernel_rfl; kernel_rfl; (apply Still.fieldAddr; rfl; (exact eqAuto)); (first | exact hS | exact hS.tail | exact hS.sublist (by repeat (first | exact List.Sublist.refl _ | refine .cons_cons _ ?_ | refine .cons _ ?_))); rfl)
    all_goals (apply RH.take (i := 10) (listed := (bm 21 1023)) (listed' := (bm 21 2047)); rfl; kernel_rfl; kernel_rfl; (first | (apply Still.load; rfl; rfl; (exact Rd.any); exact l0) | (apply Still.load; rfl; rfl; (exact Rd.any); exact l1) | (apply Still.load; rfl; rfl; (exact Rd.any); exact l2) | (apply Still.load; rfl; rfl; (exact Rd.any); (first | rfl | exact flat_get0 (by assumption) | exact flat_get1 (by assumption) | exact flat_get2 (by assumption) | exact flat_get3 (by assumption) | exact flat_get4 (by assumption))) | (apply Still.loadAgg; rfl; rfl; (exact eqAuto); (exact Rd.any); (first | exact flat_take (by assumption) | rfl); rfl)); (first | exact hS | exact hS.tail | exact hS.sublist (by repeat (first | exact List.Sublist.refl _ | refine .cons_cons _ ?_ | refine .cons _ ?_))); rfl)
    all_goals (apply RH.take (i := 11) (listed := (bm 21 2047)) (listed' := (bm 21 4095)); rfl; kernel_rfl; kernel_rfl; (first | (exact Still.any) | (apply Still.indexAddrA; rfl; rfl; rfl; (exact eqAuto); omega; omega; (first | (simp only [Int.toNat_natCast, Nat.mul_one, Nat.zero_add, Int.reduceToNat, Nat.reduceMul, Nat.reduceAdd, Nat.zero_mul]; exact rfl) | rfl))); (first | exact hS | exact hS.tail | exact hS.sublist (by repeat (first | exact List.Sublist.refl _ | refine .cons_cons _ ?_ | refine .cons _ ?_))); rfl)
    all_goals (apply RH.take (i := 12) (listed := (bm 21 4095)) (listed' := (bm 21 8191)); rfl; kernel_rfl; kernel_rfl; (first | (apply Still.load; rfl; rfl; (exact Rd.any); exact l0) | (apply Still.load; rfl; rfl; (exact Rd.any); exact l1) | (apply Still.load; rfl; rfl; (exact Rd.any); exact l2) | (apply Still.load; rfl; rfl; (exact Rd.any); (first | rfl | exact flat_get0 (by assumption) | exact flat_get1 (by assumption) | exact flat_get2 (by assumption) | exact flat_get3 (by assumption) | exact flat_get4 (by assumption))) | (apply Still.loadAgg; rfl; rfl; (exact eqAuto); (exact Rd.any); (first | exact flat_take (by assumption) | rfl); rfl)); (first | exact hS | exact hS.tail | exact hS.sublist (by repeat (first | exact List.Sublist.refl _ | refine .cons_cons _ ?_ | refine .cons _ ?_))); rfl)
    all_goals (apply RH.take (i := 13) (listed := (bm 21 8191)) (listed' := (bm 21 16383)); rfl; kernel_rfl; kernel_rfl; (first | (apply Still.load; rfl; rfl; (exact Rd.any); exact l0) | (apply Still.load; rfl; rfl; (exact Rd.any); exact l1) | (apply Still.load; rfl; rfl; (exact Rd.any); exact l2) | (exact Still.any)); (first | exact hS | exact hS.tail | exact hS.sublist (by repeat (first | exact List.Sublist.refl _ | refine .cons_cons _ ?_ | refine .cons _ ?_))); rfl)
    all_goals
      apply RH.all1 (i := 14) (listed := (bm 21 16383))
      · kernel_rfl
      · apply RI.op (i := 14) (listed := (bm 21 16383)) (listed' := (bm 21 32767)); rfl; kernel_rfl
        all_goals try first
        | (apply OP.callF; rfl; rfl; rfl; show Cl _ 33 _ _ _; exact refMkS (n := ⟨6, n, x, y, 0⟩) (hS.take (by focus ((repeat (first | apply Has.head | apply Take.head | apply Put.head | apply Has.tail | apply Take.tail | apply Put.tail)); done))); clear hS; rintro v w1 ⟨a', rfl, hsame, hS⟩; obtain ⟨r2, c2, rfl, hS⟩ := ra_eq hS; have hs2 := ra_same hsame; clear hsame; refine ⟨(by first | exact hS | exact hS.tail | exact hS.sublist (by repeat (first | exact List.Sublist.refl _ | refine .cons_cons _ ?_ | refine .cons _ ?_))), ?_⟩)
        | (refine OP.still (by exact Still.any) hS rfl ⟨(by first | exact hS | exact hS.tail | exact hS.sublist (by repeat (first | exact List.Sublist.refl _ | refine .cons_cons _ ?_ | refine .cons _ ?_))), ?_⟩)
        all_goals (apply RH.take (i := 15) (listed := (bm 21 32767)) (listed' := (bm 21 65535)); rfl; kernel_rfl; kernel_rfl; (apply Still.extract; rfl; rfl); (first | exact hS | exact hS.tail | exact hS.sublist (by repeat (first | exact List.Sublist.refl _ | refine .cons_cons _ ?_ | refine .cons _ ?_))); rfl)
        all_goals (apply RH.take (i := 16) (listed := (bm 21 65535)) (listed' := (bm 21 131071)); rfl; kernel_rfl; kernel_rfl; (apply Still.extract; rfl; rfl); (first | exact hS | exact hS.tail | exact hS.sublist (by repeat (first | exact List.Sublist.refl _ | refine .cons_cons _ ?_ | refine .cons _ ?_))); rfl)
        all_goals (apply RH.take (i := 17) (listed := (bm 21 131071)) (listed' := (bm 21 262143)); rfl; kernel_rfl; kernel_rfl; (apply Still.extract; rfl; rfl); (first | exact hS | exact hS.tail | exact hS.sublist (by repeat (first | exact List.Sublist.refl _ | refine .cons_cons _ ?_ | refine .cons _ ?_))); rfl)
        all_goals
          apply RH.all1 (i := 18) (listed := (bm 21 262143))
          · kernel_rfl
          · apply RI.op (i := 18) (listed := (bm 21 262143)) (listed' := (bm 21 524287)); rfl; kernel_rfl
            all_goals try first
            | (apply OP.store hS; rfl; rfl; rfl; rfl; rfl; (focus ((repeat (first | apply Has.head | apply Take.head | apply Put.head | apply Has.tail | apply Take.tail | apply Put.tail)); done)); rfl; rfl; clear hS; intro w1 hS; refine ⟨(by first | exact hS | exact hS.tail | exact hS.sublist (by repeat (first | exact List.Sublist.refl _ | refine .cons_cons _ ?_ | refine .cons _ ?_))), ?_⟩)
            all_goals (apply RH.take (i := 19) (listed := (bm 21 524287)) (listed' := (bm 21 1048575)); rfl; kernel_rfl; kernel_rfl; (apply Still.assign; rfl); (first | exact hS | exact hS.tail | exact hS.sublist (by repeat (first | exact List.Sublist.refl _ | refine .cons_cons _ ?_ | refine .cons _ ?_))); rfl)
            all_goals (apply RH.take (i := 20) (listed := (bm 21 1048575)) (listed' := (bm 21 2097151)); rfl; kernel_rfl; kernel_rfl; (apply Still.assign; rfl); (first | exact hS | exact hS.tail | exact hS.sublist (by repeat (first | exact List.Sublist.refl _ | refine .cons_cons _ ?_ | refine .cons _ ?_))); rfl)
            all_goals (apply RH.done (listed := (bm 21 2097151)); kernel_rfl)
            all_goals (exact ⟨⟨(r2, c2), hs2⟩, (by focus ((repeat (first | exact .nil | refine .cons rfl ?_)); done)), hS.picks (by focus ((repeat (first | apply Picks.all | apply Picks.nil | (refine Picks.cons (by repeat (first | apply Take.head | apply Take.tail)) ?_) | apply Picks.drop)); done))⟩)
  · clear hS
    rintro ⟨⟨r2, c2⟩, hs2⟩ w1 hS
    repeat' first
      | refine Run.seq ?_
      | refine Run.region ?_
      | (refine RO.split ?_ ?_ <;> intro hc <;> try (first | (exfalso; omega) | exact absurd rfl hc | exact Bool.noConfusion hc))
      | refine RO.nil ?_
      | refine RO.still (by exact Still.any) hS rfl ?_
      | (apply RO.op; apply OP.box hS; rfl; rfl; rfl; clear hS; intro b w1 hS)
      | (apply RO.op; apply OP.alloc hS; rfl; rfl; rfl; clear hS; intro b w1 hS)
      | (apply RO.op; apply OP.store hS; rfl; rfl; rfl; rfl; rfl; (focus ((repeat (first | apply Has.head | apply Take.head | apply Put.head | apply Has.tail | apply Take.tail | apply Put.tail)); done)); rfl; rfl; clear hS; intro w1 hS)
      | (apply RO.op; apply OP.buildSlice hS; rfl; rfl; (exact eqAuto); rfl; rfl; rfl; rfl; rfl; clear hS; intro b w1 hS)
      | (apply RO.op; apply OP.makeMap hS; rfl; clear hS; intro b w1 hS)
      | refine RO.yes rfl rfl ?_
      | refine RO.no rfl rfl rfl rfl ?_
      | refine RO.noUndef rfl rfl rfl ?_
      | refine RO.noNone rfl rfl rfl ?_
      | refine Run.cond_true rfl ?_
      | refine Run.cond_false rfl ?_
      | refine Run.skip ?_
      | refine Run.block ?_
      | refine Run.inBlock ?_
      | refine Run.exit rfl ?_
    refine Run.ret Try.func27 rfl (.cell rfl (by first | exact run_loadAgg rfl rfl (hS.rd (by exact Rd.any)) (by rfl) (by rfl) | exact run_loadScalar rfl (cell_of (hS.rd (by exact Rd.any)) (by rfl))) (.tmp rfl (.tmp rfl .nil))) ?_
    exact ⟨r2, c2, rfl, hs2, hS.picks (by focus ((repeat (first | apply Picks.all | apply Picks.nil | (refine Picks.cons (by repeat (first | apply Take.head | apply Take.tail)) ?_) | apply Picks.drop)); done))⟩

set_option maxHeartbeats 8000000 in
theorem refOne7 {x y z n : Int} {i j k : Nat} (ha : aheadS ⟨7, n, i, j, k⟩ 3 made = true) (hi : i < made.length) (l0 : cells[i]? = some (.int .i64 x)) (hj : j < made.length) (l1 : cells[j]? = some (.int .i64 y)) (hk : k < made.length) (l2 : cells[k]? = some (.int .i64 z)) (hl : Rd ρ F g (.cells cells.toArray 3 (0, 0)))
    (hS : St we ρ (RA (raV lim r L.length cap) lim L :: F) w) :
    Cl Try.prog 27 [raV lim r L.length cap, hv, .slice (some ⟨g, 0, none⟩) made.length cl0, .agg (stpL ⟨7, n, i, j, k⟩).toArray] w
      fun v w' => ∃ r' c', v = .tuple #[raV lim r' (mk lim L ⟨7, n, x, y, z⟩).1.length c', .int .i64 (mk lim L ⟨7, n, x, y, z⟩).2.1, .int .i64 (mk lim L ⟨7, n, x, y, z⟩).2.2] ∧ ((mk lim L ⟨7, n, x, y, z⟩).2.2 ≠ 0 → r' = r ∧ c' = cap) ∧
        St we ρ (RA (raV lim r' (mk lim L ⟨7, n, x, y, z⟩).1.length c') lim (mk lim L ⟨7, n, x, y, z⟩).1 :: F) w' := by
  have hah : ∀ {w : World} {σ : List HP}, St we ρ σ w → _ := fun {w σ} hS => refAhead (w := w) (σ := σ) (s := ⟨7, n, i, j, k⟩) (u := 3) (made := made) (by omega) hS
  simp only [ha] at hah
  show Cl _ _ [_, _, _, .agg [Value.int .i64 7, Value.int .u64 n, Value.int .i64 i, Value.int .i64 j, Value.int .i64 k].toArray] _ _
  refine Run.calls4 (n := 364) Try.func27 rfl rfl rfl ?_
  have tok : True := trivial
  have tok2 : True := trivial
  repeat' first
    | (have _ := tok; clear tok; apply RO.op; apply OP.box hS; rfl; rfl; rfl; clear hS; intro b4 w1 hS)
    | (have _ := tok2; clear tok2; apply RO.op; apply OP.box hS; rfl; rfl; rfl; clear hS; intro b7 w1 hS)
    | (apply RO.op; apply OP.callF; rfl; rfl; rfl; show Cl _ 43 _ _ _; exact hah hS; clear hS; rintro v w1 ⟨rfl, hS⟩)
    | refine Run.seq ?_
    | refine Run.region ?_
    | (refine RO.split ?_ ?_ <;> intro hc <;> try (first | (exfalso; omega) | exact absurd rfl hc | exact Bool.noConfusion hc))
    | refine RO.nil ?_
    | refine RO.still (by exact Still.any) hS rfl ?_
    | (apply RO.op; apply OP.box hS; rfl; rfl; rfl; clear hS; intro b w1 hS)
    | (apply RO.op; apply OP.alloc hS; rfl; rfl; rfl; clear hS; intro b w1 hS)
    | (apply RO.op; apply OP.store hS; rfl; rfl; rfl; rfl; rfl; (focus ((repeat (first | apply Has.head | apply Take.head | apply Put.head | apply Has.tail | apply Take.tail | apply Put.tail)); done)); rfl; rfl; clear hS; intro w1 hS)
    | (apply RO.op; apply OP.buildSlice hS; rfl; rfl; (exact eqAuto); rfl; rfl; rfl; rfl; rfl; clear hS; intro b w1 hS)
    | (apply RO.op; apply OP.makeMap hS; rfl; clear hS; intro b w1 hS)
    | refine RO.yes rfl rfl ?_
    | refine RO.no rfl rfl rfl rfl ?_
    | refine RO.noUndef rfl rfl rfl ?_
    | refine RO.noNone rfl rfl rfl ?_
    | refine Run.cond_true rfl ?_
    | refine Run.cond_false rfl ?_
    | refine Run.skip ?_
    | refine Run.block ?_
    | refine Run.inBlock ?_
    | refine Run.exit rfl ?_
  replace hS : St we ρ (Row b7 [Value.int .i64 7, Value.int .u64 n, Value.int .i64 i, Value.int .i64 j, Value.int .i64 k] 77 :: Row b4 [.int .i64 lim, .slice (some ⟨r, 0, none⟩) L.length cap] 29 :: Row b [.int .i64 0, .slice none 0 0] 29 :: RA (raV lim r L.length cap) lim L :: F) _ := hS.picks (by focus ((repeat (first | apply Picks.all | apply Picks.nil | (refine Picks.cons (by repeat (first | apply Take.head | apply Take.tail)) ?_) | apply Picks.drop)); done))
  refine (Run.regionH_cut (fun x1 : {x2 : Nat × Nat // (mk lim L ⟨7, n, x, y, z⟩).2.2 ≠ 0 → x2.1 = r ∧ x2.2 = cap} => Row b [.int .i64 lim, .slice (some ⟨x1.1.1, 0, none⟩) (mk lim L ⟨7, n, x, y, z⟩).1.length x1.1.2] 29 :: RA (raV lim x1.1.1 (mk lim L ⟨7, n, x, y, z⟩).1.length x1.1.2) lim (mk lim L ⟨7, n, x, y, z⟩).1 :: F)
    (fun _ => [(8, .pointer (some ⟨b, 0, none⟩)), (9, .int .i64 (mk lim L ⟨7, n, x, y, z⟩).2.1), (10, .int .i64 (mk lim L ⟨7, n, x, y, z⟩).2.2)])
    hS (.cons_cons _ (.cons_cons _ (.cons _ (.cons _ (List.Sublist.refl _))))) (by rfl) (by rfl) (by rfl) ?_ ?_)
  · clear hS
    intro w1 hS
    refine RH.relist (listed' := bm 26 0) (by kernel_rfl) ?_
    all_goals (apply RH.take (i := 0) (listed := (bm 26 0)) (listed' := (bm 26 1)); rfl; kernel_rfl; kernel_rfl; (first | (apply Still.load; rfl; rfl; (exact Rd.any); exact l0) | (apply Still.load; rfl; rfl; (exact Rd.any); exact l1) | (apply Still.load; rfl; rfl; (exact Rd.any); exact l2) | (apply Still.load; rfl; rfl; (exact Rd.any); (first | rfl | exact flat_get0 (by assumption) | exact flat_get1 (by assumption) | exact flat_get2 (by assumption) | exact flat_get3 (by assumption) | exact flat_get4 (by assumption))) | (apply Still.loadAgg; rfl; rfl; (exact eqAuto); (exact Rd.any); (first | exact flat_take (by assumption) | rfl); rfl)); (first | exact hS | exact hS.tail | exact hS.sublist (by repeat (first | exact List.Sublist.refl _ | refine .cons_cons _ ?_ | refine .cons _ ?_))); rfl)
    all_goals (apply RH.take (i := 1) (listed := (bm 26 1)) (listed' := (bm 26 3)); rfl; kernel_rfl; kernel_rfl; (apply Still.fieldAddr; rfl; (exact eqAuto)); (first | exact hS | exact hS.tail | exact hS.sublist (by repeat (first | exact List.Sublist.refl _ | refine .cons_cons _ ?_ | refine .cons _ ?_))); rfl)
    all_goals (apply RH.take (i := 2) (listed := (bm 26 3)) (listed' := (bm 26 7)); rfl; kernel_rfl; kernel_rfl; (first | (apply Still.load; rfl; rfl; (exact Rd.any); exact l0) | (apply Still.load; rfl; rfl; (exact Rd.any); exact l1) | (apply Still.load; rfl; rfl; (exact Rd.any); exact l2) | (apply Still.load; rfl; rfl; (exact Rd.any); (first | rfl | exact flat_get0 (by assumption) | exact flat_get1 (by assumption) | exact flat_get2 (by assumption) | exact flat_get3 (by assumption) | exact flat_get4 (by assumption))) | (apply Still.loadAgg; rfl; rfl; (exact eqAuto); (exact Rd.any); (first | exact flat_take (by assumption) | rfl); rfl)); (first | exact hS | exact hS.tail | exact hS.sublist (by repeat (first | exact List.Sublist.refl _ | refine .cons_cons _ ?_ | refine .cons _ ?_))); rfl)
    all_goals (apply RH.take (i := 3) (listed := (bm 26 7)) (listed' := (bm 26 15)); rfl; kernel_rfl; kernel_rfl; (apply Still.move; rfl); (first | exact hS | exact hS.tail | exact hS.sublist (by repeat (first | exact List.Sublist.refl _ | refine .cons_cons _ ?_ | refine .cons _ ?_))); rfl)
    all_goals (apply RH.take (i := 4) (listed := (bm 26 15)) (listed' := (bm 26 31)); rfl; kernel_rfl; kernel_rfl; (apply Still.fieldAddr; rfl; (exact eqAuto)); (first | exact hS | exact hS.tail | exact hS.sublist (by repeat (first | exact List.Sublist.refl _ | refine .cons_cons _ ?_ | refine .cons _ ?_))); rfl)
    all_goals (apply RH.take (i := 5) (listed := (bm 26 31)) (listed' := (bm 26 63)); rfl; kernel_rfl; kernel_rfl; (first | (apply Still.load; rfl; rfl; (exact Rd.any); exact l0) | (apply Still.load; rfl; rfl; (exact Rd.any); exact l1) | (apply Still.load; rfl; rfl; (exact Rd.any); exact l2) | (apply Still.load; rfl; rfl; (exact Rd.any); (first | rfl | exact flat_get0 (by assumption) | exact flat_get1 (by assumption) | exact flat_get2 (by assumption) | exact flat_get3 (by assumption) | exact flat_get4 (by assumption))) | (apply Still.loadAgg; rfl; rfl; (exact eqAuto); (exact Rd.any); (first | exact flat_take (by assumption) | rfl); rfl)); (first | exact hS | exact hS.tail | exact hS.sublist (by repeat (first | exact List.Sublist.refl _ | refine .cons_cons _ ?_ | refine .cons _ ?_))); rfl)
    all_goals (apply RH.take (i := 6) (listed := (bm 26 63)) (listed' := (bm 26 127)); rfl; kernel_rfl; kernel_rfl; (first | (exact Still.any) | (apply Still.indexAddrA; rfl; rfl; rfl; (exact eqAuto); omega; omega; (first | (simp only [Int.toNat_natCast, Nat.mul_one, Nat.zero_add, Int.reduceToNat, Nat.reduceMul, Nat.reduceAdd, Nat.zero_mul]; exact rfl) | rfl))); (first | exact hS | exact hS.tail | exact hS.sublist (by repeat (first | exact List.Sublist.refl _ | refine .cons_cons _ ?_ | refine .cons _ ?_))); rfl)
    all_goals (apply RH.take (i := 7) (listed := (bm 26 127)) (listed' := (bm 26 255)); rfl; kernel_rfl; kernel_rfl; (first | (apply Still.load; rfl; rfl; (exact Rd.any); exact l0) | (apply Still.load; rfl; rfl; (exact Rd.any); exact l1) | (apply Still.load; rfl; rfl; (exact Rd.any); exact l2) | (apply Still.load; rfl; rfl; (exact Rd.any); (first | rfl | exact flat_get0 (by assumption) | exact flat_get1 (by assumption) | exact flat_get2 (by assumption) | exact flat_get3 (by assumption) | exact flat_get4 (by assumption))) | (apply Still.loadAgg; rfl; rfl; (exact eqAuto); (exact Rd.any); (first | exact flat_take (by assumption) | rfl); rfl)); (first | exact hS | exact hS.tail | exact hS.sublist (by repeat (first | exact List.Sublist.refl _ | refine .cons_cons _ ?_ | refine .cons _ ?_))); rfl)
    all_goals (apply RH.take (i := 8) (listed := (bm 26 255)) (listed' := (bm 26 511)); rfl; kernel_rfl; kernel_rfl; (apply Still.move; rfl); (first | exact hS | exact hS.tail | exact hS.sublist (by repeat (first | exact List.Sublist.refl _ | refine .cons_cons _ ?_ | refine .cons _ ?_))); rfl)
    all_goals (apply RH.take (i := 9) (listed := (bm 26 511)) (listed' := (bm 26 1023)); rfl; kernel_rfl; kernel_rfl; (apply Still.fieldAddr; rfl; (exact eqAuto)); (first | exact hS | exact hS.tail | exact hS.sublist (by repeat (first | exact List.Sublist.refl _ | refine .cons_cons _ ?_ | refine .cons _ ?_))); rfl)
    all_goals (apply RH.take (i := 10) (listed := (bm 26 1023)) (listed' := (bm 26 2047)); rfl; kernel_rfl; kernel_rfl; (first | (apply Still.load; rfl; rfl; (exact Rd.any); exact l0) | (apply Still.load; rfl; rfl; (exact Rd.any); exact l1) | (apply Still.load; rfl; rfl; (exact Rd.any); exact l2) | (apply Still.load; rfl; rfl; (exact Rd.any); (first | rfl | exact flat_get0 (by assumption) | exact flat_get1 (by assumption) | exact flat_get2 (by assumption) | exact flat_get3 (by assumption) | exact flat_get4 (by assumption))) | (apply Still.loadAgg; rfl; rfl; (exact eqAuto); (exact Rd.any); (first | exact flat_take (by assumption) | rfl); rfl)); (first | exact hS | exact hS.tail | exact hS.sublist (by repeat (first | exact List.Sublist.refl _ | refine .cons_cons _ ?_ | refine .cons _ ?_))); rfl)
    all_goals (apply RH.take (i := 11) (listed := (bm 26 2047)) (listed' := (bm 26 4095)); rfl; kernel_rfl; kernel_rfl; (first | (exact Still.any) | (apply Still.indexAddrA; rfl; rfl; rfl; (exact eqAuto); omega; omega; (first | (simp only [Int.toNat_natCast, Nat.mul_one, Nat.zero_add, Int.reduceToNat, Nat.reduceMul, Nat.reduceAdd, Nat.zero_mul]; exact rfl) | rfl))); (first | exact hS | exact hS.tail | exact hS.sublist (by repeat (first | exact List.Sublist.refl _ | refine .cons_cons _ ?_ | refine .cons _ ?_))); rfl)
    all_goals (apply RH.take (i := 12) (listed := (bm 26 4095)) (listed' := (bm 26 8191)); rfl; kernel_rfl; kernel_rfl; (first | (apply Still.load; rfl; rfl; (exact Rd.any); exact l0) | (apply Still.load; rfl; rfl; (exact Rd.any); exact l1) | (apply Still.load; rfl; rfl; (exact Rd.any); exact l2) | (apply Still.load; rfl; rfl; (exact Rd.any); (first | rfl | exact flat_get0 (by assumption) | exact flat_get1 (by assumption) | exact flat_get2 (by assumption) | exact flat_get3 (by assumption) | exact flat_get4 (by assumption))) | (apply Still.loadAgg; rfl; rfl; (exact eqAuto); (exact Rd.any); (first | exact flat_take (by assumption) | rfl); rfl)); (first | exact hS | exact hS.tail | exact hS.sublist (by repeat (first | exact List.Sublist.refl _ | refine .cons_cons _ ?_ | refine .cons _ ?_))); rfl)
    all_goals (apply RH.take (i := 13) (listed := (bm 26 8191)) (listed' := (bm 26 16383)); rfl; kernel_rfl; kernel_rfl; (apply Still.move; rfl); (first | exact hS | exact hS.tail | exact hS.sublist (by repeat (first | exact List.Sublist.refl _ | refine .cons_cons _ ?_ | refine .cons _ ?_))); rfl)
    all_goals (apply RH.take (i := 14) (listed := (bm 26 16383)) (listed' := (bm 26 32767)); rfl; kernel_rfl; kernel_rfl; (apply Still.fieldAddr; rfl; (exact eqAuto)); (first | exact hS | exact hS.tail | exact hS.sublist (by repeat (first | exact List.Sublist.refl _ | refine .cons_cons _ ?_ | refine .cons _ ?_))); rfl)
    all_goals (apply RH.take (i := 15) (listed := (bm 26 32767)) (listed' := (bm 26 65535)); rfl; kernel_rfl; kernel_rfl; (first | (apply Still.load; rfl; rfl; (exact Rd.any); exact l0) | (apply Still.load; rfl; rfl; (exact Rd.any); exact l1) | (apply Still.load; rfl; rfl; (exact Rd.any); exact l2) | (apply Still.load; rfl; rfl; (exact Rd.any); (first | rfl | exact flat_get0 (by assumption) | exact flat_get1 (by assumption) | exact flat_get2 (by assumption) | exact flat_get3 (by assumption) | exact flat_get4 (by assumption))) | (apply Still.loadAgg; rfl; rfl; (exact eqAuto); (exact Rd.any); (first | exact flat_take (by assumption) | rfl); rfl)); (first | exact hS | exact hS.tail | exact hS.sublist (by repeat (first | exact List.Sublist.refl _ | refine .cons_cons _ ?_ | refine .cons _ ?_))); rfl)
    all_goals (apply RH.take (i := 16) (listed := (bm 26 65535)) (listed' := (bm 26 131071)); rfl; kernel_rfl; kernel_rfl; (first | (exact Still.any) | (apply Still.indexAddrA; rfl; rfl; rfl; (exact eqAuto); omega; omega; (first | (simp only [Int.toNat_natCast, Nat.mul_one, Nat.zero_add, Int.reduceToNat, Nat.reduceMul, Nat.reduceAdd, Nat.zero_mul]; exact rfl) | rfl))); (first | exact hS | exact hS.tail | exact hS.sublist (by repeat (first | exact List.Sublist.refl _ | refine .cons_cons _ ?_ | refine .cons _ ?_))); rfl)
    all_goals (apply RH.take (i := 17) (listed := (bm 26 131071)) (listed' := (bm 26 262143)); rfl; kernel_rfl; kernel_rfl; (first | (apply Still.load; rfl; rfl; (exact Rd.any); exact l0) | (apply Still.load; rfl; rfl; (exact Rd.any); exact l1) | (apply Still.load; rfl; rfl; (exact Rd.any); exact l2) | (apply Still.load; rfl; rfl; (exact Rd.any); (first | rfl | exact flat_get0 (by assumption) | exact flat_get1 (by assumption) | exact flat_get2 (by assumption) | exact flat_get3 (by assumption) | exact flat_get4 (by assumption))) | (apply Still.loadAgg; rfl; rfl; (exact eqAuto); (exact Rd.any); (first | exact flat_take (by assumption) | rfl); rfl)); (first | exact hS | exact hS.tail | exact hS.sublist (by repeat (first | exact List.Sublist.refl _ | refine .cons_cons _ ?_ | refine .cons _ ?_))); rfl)
    all_goals (apply RH.take (i := 18) (listed := (bm 26 262143)) (listed' := (bm 26 524287)); rfl; kernel_rfl; kernel_rfl; (first | (apply Still.load; rfl; rfl; (exact Rd.any); exact l0) | (apply Still.load; rfl; rfl; (exact Rd.any); exact l1) | (apply Still.load; rfl; rfl; (exact Rd.any); exact l2) | (exact Still.any)); (first | exact hS | exact hS.tail | exact hS.sublist (by repeat (first | exact List.Sublist.refl _ | refine .cons_cons _ ?_ | refine .cons _ ?_))); rfl)
    all_goals
      apply RH.all1 (i := 19) (listed := (bm 26 524287))
      · kernel_rfl
      · apply RI.op (i := 19) (listed := (bm 26 524287)) (listed' := (bm 26 1048575)); rfl; kernel_rfl
        all_goals try first
        | (apply OP.callF; rfl; rfl; rfl; show Cl _ 33 _ _ _; exact refMkS (n := ⟨7, n, x, y, z⟩) (hS.take (by focus ((repeat (first | apply Has.head | apply Take.head | apply Put.head | apply Has.tail | apply Take.tail | apply Put.tail)); done))); clear hS; rintro v w1 ⟨a', rfl, hsame, hS⟩; obtain ⟨r2, c2, rfl, hS⟩ := ra_eq hS; have hs2 := ra_same hsame; clear hsame; refine ⟨(by first | exact hS | exact hS.tail | exact hS.sublist (by repeat (first | exact List.Sublist.refl _ | refine .cons_cons _ ?_ | refine .cons _ ?_))), ?_⟩)
        | (refine OP.still (by exact Still.any) hS rfl ⟨(by first | exact hS | exact hS.tail | exact hS.sublist (by repeat (first | exact List.Sublist.refl _ | refine .cons_cons _ ?_ | refine .cons _ ?_))), ?_⟩)
        all_goals (apply RH.take (i := 20) (listed := (bm 26 1048575)) (listed' := (bm 26 2097151)); rfl; kernel_rfl; kernel_rfl; (apply Still.extract; rfl; rfl); (first | exact hS | exact hS.tail | exact hS.sublist (by repeat (first | exact List.Sublist.refl _ | refine .cons_cons _ ?_ | refine .cons _ ?_))); rfl)
        all_goals (apply RH.take (i := 21) (listed := (bm 26 2097151)) (listed' := (bm 26 4194303)); rfl; kernel_rfl; kernel_rfl; (apply Still.extract; rfl; rfl); (first | exact hS | exact hS.tail | exact hS.sublist (by repeat (first | exact List.Sublist.refl _ | refine .cons_cons _ ?_ | refine .cons _ ?_))); rfl)
        all_goals (apply RH.take (i := 22) (listed := (bm 26 4194303)) (listed' := (bm 26 8388607)); rfl; kernel_rfl; kernel_rfl; (apply Still.extract; rfl; rfl); (first | exact hS | exact hS.tail | exact hS.sublist (by repeat (first | exact List.Sublist.refl _ | refine .cons_cons _ ?_ | refine .cons _ ?_))); rfl)
        all_goals
          apply RH.all1 (i := 23) (listed := (bm 26 8388607))
          · kernel_rfl
          · apply RI.op (i := 23) (listed := (bm 26 8388607)) (listed' := (bm 26 16777215)); rfl; kernel_rfl
            all_goals try first
            | (apply OP.store hS; rfl; rfl; rfl; rfl; rfl; (focus ((repeat (first | apply Has.head | apply Take.head | apply Put.head | apply Has.tail | apply Take.tail | apply Put.tail)); done)); rfl; rfl; clear hS; intro w1 hS; refine ⟨(by first | exact hS | exact hS.tail | exact hS.sublist (by repeat (first | exact List.Sublist.refl _ | refine .cons_cons _ ?_ | refine .cons _ ?_))), ?_⟩)
            all_goals (apply RH.take (i := 24) (listed := (bm 26 16777215)) (listed' := (bm 26 33554431)); rfl; kernel_rfl; kernel_rfl; (apply Still.assign; rfl); (first | exact hS | exact hS.tail | exact hS.sublist (by repeat (first | exact List.Sublist.refl _ | refine .cons_cons _ ?_ | refine .cons _ ?_))); rfl)
            all_goals (apply RH.take (i := 25) (listed := (bm 26 33554431)) (listed' := (bm 26 67108863)); rfl; kernel_rfl; kernel_rfl; (apply Still.assign; rfl); (first | exact hS | exact hS.tail | exact hS.sublist (by repeat (first | exact List.Sublist.refl _ | refine .cons_cons _ ?_ | refine .cons _ ?_))); rfl)
            all_goals (apply RH.done (listed := (bm 26 67108863)); kernel_rfl)
            all_goals (exact ⟨⟨(r2, c2), hs2⟩, (by focus ((repeat (first | exact .nil | refine .cons rfl ?_)); done)), hS.picks (by focus ((repeat (first | apply Picks.all | apply Picks.nil | (refine Picks.cons (by repeat (first | apply Take.head | apply Take.tail)) ?_) | apply Picks.drop)); done))⟩)
  · clear hS
    rintro ⟨⟨r2, c2⟩, hs2⟩ w1 hS
    repeat' first
      | refine Run.seq ?_
      | refine Run.region ?_
      | (refine RO.split ?_ ?_ <;> intro hc <;> try (first | (exfalso; omega) | exact absurd rfl hc | exact Bool.noConfusion hc))
      | refine RO.nil ?_
      | refine RO.still (by exact Still.any) hS rfl ?_
      | (apply RO.op; apply OP.box hS; rfl; rfl; rfl; clear hS; intro b w1 hS)
      | (apply RO.op; apply OP.alloc hS; rfl; rfl; rfl; clear hS; intro b w1 hS)
      | (apply RO.op; apply OP.store hS; rfl; rfl; rfl; rfl; rfl; (focus ((repeat (first | apply Has.head | apply Take.head | apply Put.head | apply Has.tail | apply Take.tail | apply Put.tail)); done)); rfl; rfl; clear hS; intro w1 hS)
      | (apply RO.op; apply OP.buildSlice hS; rfl; rfl; (exact eqAuto); rfl; rfl; rfl; rfl; rfl; clear hS; intro b w1 hS)
      | (apply RO.op; apply OP.makeMap hS; rfl; clear hS; intro b w1 hS)
      | refine RO.yes rfl rfl ?_
      | refine RO.no rfl rfl rfl rfl ?_
      | refine RO.noUndef rfl rfl rfl ?_
      | refine RO.noNone rfl rfl rfl ?_
      | refine Run.cond_true rfl ?_
      | refine Run.cond_false rfl ?_
      | refine Run.skip ?_
      | refine Run.block ?_
      | refine Run.inBlock ?_
      | refine Run.exit rfl ?_
    refine Run.ret Try.func27 rfl (.cell rfl (by first | exact run_loadAgg rfl rfl (hS.rd (by exact Rd.any)) (by rfl) (by rfl) | exact run_loadScalar rfl (cell_of (hS.rd (by exact Rd.any)) (by rfl))) (.tmp rfl (.tmp rfl .nil))) ?_
    exact ⟨r2, c2, rfl, hs2, hS.picks (by focus ((repeat (first | apply Picks.all | apply Picks.nil | (refine Picks.cons (by repeat (first | apply Take.head | apply Take.tail)) ?_) | apply Picks.drop)); done))⟩
end

/-! Recipe9 -/

section
variable {we w : World} {ρ : List (Nat × Obj)} {σ F : List HP} {lim g cl0 r cap : Nat} {L : List Nd} {made heard : List Int} {hv : Value} {cells : List Value} {a : Value}

set_option maxHeartbeats 8000000 in
theorem refOne1 {n a0 zb zc : Int} {pg : Option Addr} (hn0 : 0 ≤ n) (hn1 : n < 1048576) (ha : aheadS ⟨1, n, a0, zb, zc⟩ 0 made = true)
    (hS : St we ρ (RA (raV lim r L.length cap) lim L :: F) w) :
    Cl Try.prog 27 [raV lim r L.length cap, hv, .slice pg made.length cl0, .agg (stpL ⟨1, n, a0, zb, zc⟩).toArray] w
      fun v w' => ∃ r' c', v = .tuple #[raV lim r' (mk lim L ⟨1, 4294967296 + n, 0, 0, 0⟩).1.length c', .int .i64 (mk lim L ⟨1, 4294967296 + n, 0, 0, 0⟩).2.1, .int .i64 (mk lim L ⟨1, 4294967296 + n, 0, 0, 0⟩).2.2] ∧ ((mk lim L ⟨1, 4294967296 + n, 0, 0, 0⟩).2.2 ≠ 0 → r' = r ∧ c' = cap) ∧
        St we ρ (RA (raV lim r' (mk lim L ⟨1, 4294967296 + n, 0, 0, 0⟩).1.length c') lim (mk lim L ⟨1, 4294967296 + n, 0, 0, 0⟩).1 :: F) w' := by
  have hah : ∀ {w : World} {σ : List HP}, St we ρ σ w → _ := fun {w σ} hS => refAhead (w := w) (σ := σ) (s := ⟨1, n, a0, zb, zc⟩) (u := 0) (made := made) (by omega) hS
  simp only [ha] at hah
  show Cl _ _ [_, _, _, .agg [Value.int .i64 1, Value.int .u64 n, Value.int .i64 a0, Value.int .i64 zb, Value.int .i64 zc].toArray] _ _
  refine Run.calls4 (n := 364) Try.func27 rfl rfl rfl ?_
  have tok : True := trivial
  have tok2 : True := trivial
  repeat' first
    | (have _ := tok; clear tok; apply RO.op; apply OP.box hS; rfl; rfl; rfl; clear hS; intro b4 w1 hS)
    | (have _ := tok2; clear tok2; apply RO.op; apply OP.box hS; rfl; rfl; rfl; clear hS; intro b7 w1 hS)
    | (apply RO.op; apply OP.callF; rfl; rfl; rfl; show Cl _ 43 _ _ _; exact hah hS; clear hS; rintro v w1 ⟨rfl, hS⟩)
    | (apply RO.op; apply OP.callF; rfl; rfl; rfl; show Cl _ 33 _ _ _; exact refMkS (n := ⟨1, 4294967296 + n, 0, 0, 0⟩) (hS.take (by focus ((repeat (first | apply Has.head | apply Take.head | apply Put.head | apply Has.tail | apply Take.tail | apply Put.tail)); done))); clear hS; rintro v w1 ⟨a', rfl, hsame, hS⟩; obtain ⟨r2, c2, rfl, hS⟩ := ra_eq hS; have hs2 := ra_same hsame; clear hsame)
    | refine Run.seq ?_
    | refine Run.region ?_
    | (refine RO.split ?_ ?_ <;> intro hc <;> try (first | (exfalso; omega) | exact absurd rfl hc | exact Bool.noConfusion hc))
    | refine RO.nil ?_
    | refine RO.still (by exact Still.any) hS rfl ?_
    | (apply RO.op; apply OP.box hS; rfl; rfl; rfl; clear hS; intro b w1 hS)
    | (apply RO.op; apply OP.alloc hS; rfl; rfl; rfl; clear hS; intro b w1 hS)
    | (apply RO.op; apply OP.store hS; rfl; rfl; rfl; rfl; rfl; (focus ((repeat (first | apply Has.head | apply Take.head | apply Put.head | apply Has.tail | apply Take.tail | apply Put.tail)); done)); rfl; rfl; clear hS; intro w1 hS)
    | (apply RO.op; apply OP.buildSlice hS; rfl; rfl; (exact eqAuto); rfl; rfl; rfl; rfl; rfl; clear hS; intro b w1 hS)
    | (apply RO.op; apply OP.makeMap hS; rfl; clear hS; intro b w1 hS)
    | refine RO.yes rfl rfl ?_
    | refine RO.no rfl rfl rfl rfl ?_
    | refine RO.noUndef rfl rfl rfl ?_
    | refine RO.noNone rfl rfl rfl ?_
    | refine Run.cond_true rfl ?_
    | refine Run.cond_false rfl ?_
    | refine Run.skip ?_
    | refine Run.block ?_
    | refine Run.inBlock ?_
    | refine Run.exit rfl ?_
  refine Run.ret Try.func27 rfl (.cell rfl (by first | exact run_loadAgg rfl rfl (hS.rd (by exact Rd.any)) (by rfl) (by rfl) | exact run_loadScalar rfl (cell_of (hS.rd (by exact Rd.any)) (by rfl))) (.tmp rfl (.tmp rfl .nil))) ?_
  exact ⟨r2, c2, rfl, hs2, hS.picks (by focus ((repeat (first | apply Picks.all | apply Picks.nil | (refine Picks.cons (by repeat (first | apply Take.head | apply Take.tail)) ?_) | apply Picks.drop)); done))⟩

set_option maxHeartbeats 8000000 in
theorem refOne9 {n a0 zb zc : Int} {pg : Option Addr} (ha : aheadS ⟨9, n, a0, zb, zc⟩ 0 made = true)
    (hS : St we ρ (RA (raV lim r L.length cap) lim L :: F) w) :
    Cl Try.prog 27 [raV lim r L.length cap, hv, .slice pg made.length cl0, .agg (stpL ⟨9, n, a0, zb, zc⟩).toArray] w
      fun v w' => ∃ r' c', v = .tuple #[raV lim r' (mk lim L ⟨9, n, 0, 0, 0⟩).1.length c', .int .i64 (mk lim L ⟨9, n, 0, 0, 0⟩).2.1, .int .i64 (mk lim L ⟨9, n, 0, 0, 0⟩).2.2] ∧ ((mk lim L ⟨9, n, 0, 0, 0⟩).2.2 ≠ 0 → r' = r ∧ c' = cap) ∧
        St we ρ (RA (raV lim r' (mk lim L ⟨9, n, 0, 0, 0⟩).1.length c') lim (mk lim L ⟨9, n, 0, 0, 0⟩).1 :: F) w' := by
  have hah : ∀ {w : World} {σ : List HP}, St we ρ σ w → _ := fun {w σ} hS => refAhead (w := w) (σ := σ) (s := ⟨9, n, a0, zb, zc⟩) (u := 0) (made := made) (by omega) hS
  simp only [ha] at hah
  show Cl _ _ [_, _, _, .agg [Value.int .i64 9, Value.int .u64 n, Value.int .i64 a0, Value.int .i64 zb, Value.int .i64 zc].toArray] _ _
  refine Run.calls4 (n := 364) Try.func27 rfl rfl rfl ?_
  have tok : True := trivial
  have tok2 : True := trivial
  repeat' first
    | (have _ := tok; clear tok; apply RO.op; apply OP.box hS; rfl; rfl; rfl; clear hS; intro b4 w1 hS)
    | (have _ := tok2; clear tok2; apply RO.op; apply OP.box hS; rfl; rfl; rfl; clear hS; intro b7 w1 hS)
    | (apply RO.op; apply OP.callF; rfl; rfl; rfl; show Cl _ 43 _ _ _; exact hah hS; clear hS; rintro v w1 ⟨rfl, hS⟩)
    | (apply RO.op; apply OP.callF; rfl; rfl; rfl; show Cl _ 33 _ _ _; exact refMkS (n := ⟨9, n, 0, 0, 0⟩) (hS.take (by focus ((repeat (first | apply Has.head | apply Take.head | apply Put.head | apply Has.tail | apply Take.tail | apply Put.tail)); done))); clear hS; rintro v w1 ⟨a', rfl, hsame, hS⟩; obtain ⟨r2, c2, rfl, hS⟩ := ra_eq hS; have hs2 := ra_same hsame; clear hsame)
    | refine Run.seq ?_
    | refine Run.region ?_
    | (refine RO.split ?_ ?_ <;> intro hc <;> try (first | (exfalso; omega) | exact absurd rfl hc | exact Bool.noConfusion hc))
    | refine RO.nil ?_
    | refine RO.still (by exact Still.any) hS rfl ?_
    | (apply RO.op; apply OP.box hS; rfl; rfl; rfl; clear hS; intro b w1 hS)
    | (apply RO.op; apply OP.alloc hS; rfl; rfl; rfl; clear hS; intro b w1 hS)
    | (apply RO.op; apply OP.store hS; rfl; rfl; rfl; rfl; rfl; (focus ((repeat (first | apply Has.head | apply Take.head | apply Put.head | apply Has.tail | apply Take.tail | apply Put.tail)); done)); rfl; rfl; clear hS; intro w1 hS)
    | (apply RO.op; apply OP.buildSlice hS; rfl; rfl; (exact eqAuto); rfl; rfl; rfl; rfl; rfl; clear hS; intro b w1 hS)
    | (apply RO.op; apply OP.makeMap hS; rfl; clear hS; intro b w1 hS)
    | refine RO.yes rfl rfl ?_
    | refine RO.no rfl rfl rfl rfl ?_
    | refine RO.noUndef rfl rfl rfl ?_
    | refine RO.noNone rfl rfl rfl ?_
    | refine Run.cond_true rfl ?_
    | refine Run.cond_false rfl ?_
    | refine Run.skip ?_
    | refine Run.block ?_
    | refine Run.inBlock ?_
    | refine Run.exit rfl ?_
  refine Run.ret Try.func27 rfl (.cell rfl (by first | exact run_loadAgg rfl rfl (hS.rd (by exact Rd.any)) (by rfl) (by rfl) | exact run_loadScalar rfl (cell_of (hS.rd (by exact Rd.any)) (by rfl))) (.tmp rfl (.tmp rfl .nil))) ?_
  exact ⟨r2, c2, rfl, hs2, hS.picks (by focus ((repeat (first | apply Picks.all | apply Picks.nil | (refine Picks.cons (by repeat (first | apply Take.head | apply Take.tail)) ?_) | apply Picks.drop)); done))⟩

set_option maxHeartbeats 8000000 in
theorem refOne13 {a0 zb zc : Int} {pg : Option Addr} (ha : aheadS ⟨13, 0, a0, zb, zc⟩ 0 made = true)
    (hS : St we ρ (RA (raV lim r L.length cap) lim L :: F) w) :
    Cl Try.prog 27 [raV lim r L.length cap, hv, .slice pg made.length cl0, .agg (stpL ⟨13, 0, a0, zb, zc⟩).toArray] w
      fun v w' => v = .tuple #[raV lim r L.length cap, .int .i64 0, .int .i64 0] ∧ St we ρ (RA (raV lim r L.length cap) lim L :: F) w' := by
  have hah : ∀ {w : World} {σ : List HP}, St we ρ σ w → _ := fun {w σ} hS => refAhead (w := w) (σ := σ) (s := ⟨13, 0, a0, zb, zc⟩) (u := 0) (made := made) (by omega) hS
  simp only [ha] at hah
  show Cl _ _ [_, _, _, .agg [Value.int .i64 13, Value.int .u64 0, Value.int .i64 a0, Value.int .i64 zb, Value.int .i64 zc].toArray] _ _
  refine Run.calls4 (n := 364) Try.func27 rfl rfl rfl ?_
  have tok : True := trivial
  have tok2 : True := trivial
  repeat' first
    | (have _ := tok; clear tok; apply RO.op; apply OP.box hS; rfl; rfl; rfl; clear hS; intro b4 w1 hS)
    | (have _ := tok2; clear tok2; apply RO.op; apply OP.box hS; rfl; rfl; rfl; clear hS; intro b7 w1 hS)
    | (apply RO.op; apply OP.callF; rfl; rfl; rfl; show Cl _ 43 _ _ _; exact hah hS; clear hS; rintro v w1 ⟨rfl, hS⟩)
    | refine Run.seq ?_
    | refine Run.region ?_
    | (refine RO.split ?_ ?_ <;> intro hc <;> try (first | (exfalso; omega) | exact absurd rfl hc | exact Bool.noConfusion hc))
    | refine RO.nil ?_
    | refine RO.still (by exact Still.any) hS rfl ?_
    | (apply RO.op; apply OP.box hS; rfl; rfl; rfl; clear hS; intro b w1 hS)
    | (apply RO.op; apply OP.alloc hS; rfl; rfl; rfl; clear hS; intro b w1 hS)
    | (apply RO.op; apply OP.store hS; rfl; rfl; rfl; rfl; rfl; (focus ((repeat (first | apply Has.head | apply Take.head | apply Put.head | apply Has.tail | apply Take.tail | apply Put.tail)); done)); rfl; rfl; clear hS; intro w1 hS)
    | (apply RO.op; apply OP.buildSlice hS; rfl; rfl; (exact eqAuto); rfl; rfl; rfl; rfl; rfl; clear hS; intro b w1 hS)
    | (apply RO.op; apply OP.makeMap hS; rfl; clear hS; intro b w1 hS)
    | refine RO.yes rfl rfl ?_
    | refine RO.no rfl rfl rfl rfl ?_
    | refine RO.noUndef rfl rfl rfl ?_
    | refine RO.noNone rfl rfl rfl ?_
    | refine Run.cond_true rfl ?_
    | refine Run.cond_false rfl ?_
    | refine Run.skip ?_
    | refine Run.block ?_
    | refine Run.inBlock ?_
    | refine Run.exit rfl ?_
  refine Run.ret Try.func27 rfl (.cell rfl (by first | exact run_loadAgg rfl rfl (hS.rd (by exact Rd.any)) (by rfl) (by rfl) | exact run_loadScalar rfl (cell_of (hS.rd (by exact Rd.any)) (by rfl))) (.tmp rfl (.tmp rfl .nil))) ?_
  exact ⟨rfl, hS.picks (by focus ((repeat (first | apply Picks.all | apply Picks.nil | (refine Picks.cons (by repeat (first | apply Take.head | apply Take.tail)) ?_) | apply Picks.drop)); done))⟩

set_option maxHeartbeats 8000000 in
theorem refOne0 {m : Nat} {pg : Option Addr} (hs : Sl ρ intL 1 hv heard) (hm : m < heard.length)
    (hS : St we ρ (RA (raV lim r L.length cap) lim L :: F) w) :
    Cl Try.prog 27 [raV lim r L.length cap, hv, .slice pg made.length cl0, .agg (stpL ⟨0, 0, m, 0, 0⟩).toArray] w
      fun v w' => v = .tuple #[raV lim r L.length cap, .int .i64 heard[m], .int .i64 0] ∧ St we ρ (RA (raV lim r L.length cap) lim L :: F) w' := by
  obtain ⟨ph, ch, rfl, k1, k2, _⟩ := hs.val
  obtain ⟨b1, o1, cs1, e1, f1, rfl, m1, hx1⟩ := hs.int hm
  generalize heard[m] = x at hx1
  show Cl _ _ [_, _, _, .agg [Value.int .i64 0, Value.int .u64 0, Value.int .i64 m, Value.int .i64 0, Value.int .i64 0].toArray] _ _
  refine Run.calls4 (n := 364) Try.func27 rfl rfl rfl ?_
  have tok : True := trivial
  have tok2 : True := trivial
  repeat' first
    | (have _ := tok; clear tok; apply RO.op; apply OP.box hS; rfl; rfl; rfl; clear hS; intro b4 w1 hS)
    | (have _ := tok2; clear tok2; apply RO.op; apply OP.box hS; rfl; rfl; rfl; clear hS; intro b7 w1 hS)
    | refine Run.seq ?_
    | refine Run.region ?_
    | (refine RO.split ?_ ?_ <;> intro hc <;> try (first | (exfalso; omega) | exact absurd rfl hc | exact Bool.noConfusion hc))
    | refine RO.nil ?_
    | refine RO.still (by exact Still.any) hS rfl ?_
    | (apply RO.op; apply OP.box hS; rfl; rfl; rfl; clear hS; intro b w1 hS)
    | (apply RO.op; apply OP.alloc hS; rfl; rfl; rfl; clear hS; intro b w1 hS)
    | (apply RO.op; apply OP.store hS; rfl; rfl; rfl; rfl; rfl; (focus ((repeat (first | apply Has.head | apply Take.head | apply Put.head | apply Has.tail | apply Take.tail | apply Put.tail)); done)); rfl; rfl; clear hS; intro w1 hS)
    | (apply RO.op; apply OP.buildSlice hS; rfl; rfl; (exact eqAuto); rfl; rfl; rfl; rfl; rfl; clear hS; intro b w1 hS)
    | (apply RO.op; apply OP.makeMap hS; rfl; clear hS; intro b w1 hS)
    | refine RO.yes rfl rfl ?_
    | refine RO.no rfl rfl rfl rfl ?_
    | refine RO.noUndef rfl rfl rfl ?_
    | refine RO.noNone rfl rfl rfl ?_
    | refine Run.cond_true rfl ?_
    | refine Run.cond_false rfl ?_
    | refine Run.skip ?_
    | refine Run.block ?_
    | refine Run.inBlock ?_
    | refine Run.exit rfl ?_
  replace hS : St we ρ (Row b7 [Value.int .i64 0, Value.int .u64 0, Value.int .i64 m, Value.int .i64 0, Value.int .i64 0] 77 :: Row b4 [.int .i64 lim, .slice (some ⟨r, 0, none⟩) L.length cap] 29 :: Row b [.int .i64 0, .slice none 0 0] 29 :: RA (raV lim r L.length cap) lim L :: F) _ := hS.picks (by focus ((repeat (first | apply Picks.all | apply Picks.nil | (refine Picks.cons (by repeat (first | apply Take.head | apply Take.tail)) ?_) | apply Picks.drop)); done))
  refine (Run.regionH_cut (fun _ : Unit => Row b [.int .i64 lim, .slice (some ⟨r, 0, none⟩) L.length cap] 29 :: RA (raV lim r L.length cap) lim L :: F)
    (fun _ => [(8, .pointer (some ⟨b, 0, none⟩)), (9, .int .i64 x), (10, .int .i64 0)])
    hS (.cons_cons _ (.cons_cons _ (.cons _ (List.Sublist.refl _)))) (by rfl) (by rfl) (by rfl) ?_ ?_)
  · clear hS
    intro w1 hS
    refine RH.relist (listed' := bm 9 0) (by kernel_rfl) ?_
    all_goals (apply RH.take (i := 0) (listed := (bm 9 0)) (listed' := (bm 9 1)); rfl; kernel_rfl; kernel_rfl; (first | (apply Still.load; rfl; rfl; exact Rd.ro m1; exact hx1) | (apply Still.load; rfl; rfl; (exact Rd.any); (first | rfl | exact flat_get0 (by assumption) | exact flat_get1 (by assumption) | exact flat_get2 (by assumption) | exact flat_get3 (by assumption) | exact flat_get4 (by assumption))) | (apply Still.loadAgg; rfl; rfl; (exact eqAuto); (exact Rd.any); (first | exact flat_take (by assumption) | rfl); rfl)); (first | exact hS | exact hS.tail | exact hS.sublist (by repeat (first | exact List.Sublist.refl _ | refine .cons_cons _ ?_ | refine .cons _ ?_))); rfl)
    all_goals (apply RH.take (i := 1) (listed := (bm 9 1)) (listed' := (bm 9 3)); rfl; kernel_rfl; kernel_rfl; (apply Still.move; rfl); (first | exact hS | exact hS.tail | exact hS.sublist (by repeat (first | exact List.Sublist.refl _ | refine .cons_cons _ ?_ | refine .cons _ ?_))); rfl)
    all_goals (apply RH.take (i := 2) (listed := (bm 9 3)) (listed' := (bm 9 7)); rfl; kernel_rfl; kernel_rfl; (apply Still.fieldAddr; rfl; (exact eqAuto)); (first | exact hS | exact hS.tail | exact hS.sublist (by repeat (first | exact List.Sublist.refl _ | refine .cons_cons _ ?_ | refine .cons _ ?_))); rfl)
    all_goals (apply RH.take (i := 3) (listed := (bm 9 7)) (listed' := (bm 9 15)); rfl; kernel_rfl; kernel_rfl; (first | (apply Still.load; rfl; rfl; exact Rd.ro m1; exact hx1) | (apply Still.load; rfl; rfl; (exact Rd.any); (first | rfl | exact flat_get0 (by assumption) | exact flat_get1 (by assumption) | exact flat_get2 (by assumption) | exact flat_get3 (by assumption) | exact flat_get4 (by assumption))) | (apply Still.loadAgg; rfl; rfl; (exact eqAuto); (exact Rd.any); (first | exact flat_take (by assumption) | rfl); rfl)); (first | exact hS | exact hS.tail | exact hS.sublist (by repeat (first | exact List.Sublist.refl _ | refine .cons_cons _ ?_ | refine .cons _ ?_))); rfl)
    all_goals (apply RH.take (i := 4) (listed := (bm 9 15)) (listed' := (bm 9 31)); rfl; kernel_rfl; kernel_rfl; (first | (exact Still.any) | (apply Still.indexAddrA; rfl; rfl; rfl; (exact eqAuto); omega; omega; (first | (simp only [Int.toNat_natCast, Nat.mul_one, Nat.zero_add, Int.reduceToNat, Nat.reduceMul, Nat.reduceAdd, Nat.zero_mul]; exact rfl) | rfl))); (first | exact hS | exact hS.tail | exact hS.sublist (by repeat (first | exact List.Sublist.refl _ | refine .cons_cons _ ?_ | refine .cons _ ?_))); rfl)
    all_goals (apply RH.take (i := 5) (listed := (bm 9 31)) (listed' := (bm 9 63)); rfl; kernel_rfl; kernel_rfl; (first | (apply Still.load; rfl; rfl; exact Rd.ro m1; exact hx1) | (apply Still.load; rfl; rfl; (exact Rd.any); (first | rfl | exact flat_get0 (by assumption) | exact flat_get1 (by assumption) | exact flat_get2 (by assumption) | exact flat_get3 (by assumption) | exact flat_get4 (by assumption))) | (apply Still.loadAgg; rfl; rfl; (exact eqAuto); (exact Rd.any); (first | exact flat_take (by assumption) | rfl); rfl)); (first | exact hS | exact hS.tail | exact hS.sublist (by repeat (first | exact List.Sublist.refl _ | refine .cons_cons _ ?_ | refine .cons _ ?_))); rfl)
    all_goals
      apply RH.all1 (i := 6) (listed := (bm 9 63))
      · kernel_rfl
      · apply RI.op (i := 6) (listed := (bm 9 63)) (listed' := (bm 9 127)); rfl; kernel_rfl
        all_goals try first
        | (apply OP.store hS; rfl; rfl; rfl; rfl; rfl; (focus ((repeat (first | apply Has.head | apply Take.head | apply Put.head | apply Has.tail | apply Take.tail | apply Put.tail)); done)); rfl; rfl; clear hS; intro w1 hS; refine ⟨(by first | exact hS | exact hS.tail | exact hS.sublist (by repeat (first | exact List.Sublist.refl _ | refine .cons_cons _ ?_ | refine .cons _ ?_))), ?_⟩)
        all_goals (apply RH.take (i := 7) (listed := (bm 9 127)) (listed' := (bm 9 255)); rfl; kernel_rfl; kernel_rfl; (apply Still.assign; rfl); (first | exact hS | exact hS.tail | exact hS.sublist (by repeat (first | exact List.Sublist.refl _ | refine .cons_cons _ ?_ | refine .cons _ ?_))); rfl)
        all_goals (apply RH.take (i := 8) (listed := (bm 9 255)) (listed' := (bm 9 511)); rfl; kernel_rfl; kernel_rfl; (apply Still.assign; rfl); (first | exact hS | exact hS.tail | exact hS.sublist (by repeat (first | exact List.Sublist.refl _ | refine .cons_cons _ ?_ | refine .cons _ ?_))); rfl)
        all_goals (apply RH.done (listed := (bm 9 511)); kernel_rfl)
        all_goals (exact ⟨(), (by focus ((repeat (first | exact .nil | refine .cons rfl ?_)); done)), hS.picks (by focus ((repeat (first | apply Picks.all | apply Picks.nil | (refine Picks.cons (by repeat (first | apply Take.head | apply Take.tail)) ?_) | apply Picks.drop)); done))⟩)
  · clear hS
    rintro ⟨⟩ w1 hS
    repeat' first
      | refine Run.seq ?_
      | refine Run.region ?_
      | (refine RO.split ?_ ?_ <;> intro hc <;> try (first | (exfalso; omega) | exact absurd rfl hc | exact Bool.noConfusion hc))
      | refine RO.nil ?_
      | refine RO.still (by exact Still.any) hS rfl ?_
      | (apply RO.op; apply OP.box hS; rfl; rfl; rfl; clear hS; intro b w1 hS)
      | (apply RO.op; apply OP.alloc hS; rfl; rfl; rfl; clear hS; intro b w1 hS)
      | (apply RO.op; apply OP.store hS; rfl; rfl; rfl; rfl; rfl; (focus ((repeat (first | apply Has.head | apply Take.head | apply Put.head | apply Has.tail | apply Take.tail | apply Put.tail)); done)); rfl; rfl; clear hS; intro w1 hS)
      | (apply RO.op; apply OP.buildSlice hS; rfl; rfl; (exact eqAuto); rfl; rfl; rfl; rfl; rfl; clear hS; intro b w1 hS)
      | (apply RO.op; apply OP.makeMap hS; rfl; clear hS; intro b w1 hS)
      | refine RO.yes rfl rfl ?_
      | refine RO.no rfl rfl rfl rfl ?_
      | refine RO.noUndef rfl rfl rfl ?_
      | refine RO.noNone rfl rfl rfl ?_
      | refine Run.cond_true rfl ?_
      | refine Run.cond_false rfl ?_
      | refine Run.skip ?_
      | refine Run.block ?_
      | refine Run.inBlock ?_
      | refine Run.exit rfl ?_
    refine Run.ret Try.func27 rfl (.cell rfl (by first | exact run_loadAgg rfl rfl (hS.rd (by exact Rd.any)) (by rfl) (by rfl) | exact run_loadScalar rfl (cell_of (hS.rd (by exact Rd.any)) (by rfl))) (.tmp rfl (.tmp rfl .nil))) ?_
    exact ⟨rfl, hS.picks (by focus ((repeat (first | apply Picks.all | apply Picks.nil | (refine Picks.cons (by repeat (first | apply Take.head | apply Take.tail)) ?_) | apply Picks.drop)); done))⟩
end

/-! Recipe10 -/

section
variable {we w : World} {ρ : List (Nat × Obj)} {σ F : List HP} {lim g cl0 r cap : Nat} {L : List Nd} {made heard : List Int} {hv : Value} {cells : List Value} {a : Value}

set_option maxHeartbeats 8000000 in
theorem refOne10 {zb zc y : Int} {q i : Nat} (ha : aheadS ⟨10, 0, i, zb, zc⟩ 1 made = true) (hi : i < made.length) (hl : Rd ρ F g (.cells cells.toArray 3 (0, 0))) (l0 : cells[i]? = some (.int .i64 q)) (hq : has L q = true)
    (hS : St we ρ (RA a lim L :: F) w) :
    Cl Try.prog 27 [a, hv, .slice (some ⟨g, 0, none⟩) made.length cl0, .agg (stpL ⟨10, 0, i, zb, zc⟩).toArray] w
      fun v w' => v = .tuple #[a, .int .i64 (takenV L 10 q y).1, .int .i64 (takenV L 10 q y).2] ∧ St we ρ (RA a lim L :: F) w' := by
  obtain ⟨r1, cap1, spare, rfl, g1, g2, g3, g4, hS⟩ := ra_open hS
  have hah : ∀ {w : World} {σ : List HP}, St we ρ σ w → _ := fun {w σ} hS => refAhead (w := w) (σ := σ) (s := ⟨10, 0, i, zb, zc⟩) (u := 1) (made := made) (by omega) hS
  simp only [ha] at hah
  have hql := (has_iff.1 hq).2
  have f0 : (flat L ++ spare)[q * 5]? = some (.int .i64 (nd L q).k) := flat_get0 (x := (q : Int)) hq
  have f2 : (flat L ++ spare)[q * 5 + 2]? = some (.int .i64 (nd L q).a) := flat_get2 (x := (q : Int)) hq
  have f3 : (flat L ++ spare)[q * 5 + 3]? = some (.int .i64 (nd L q).b) := flat_get3 (x := (q : Int)) hq
  have f4 : (flat L ++ spare)[q * 5 + 4]? = some (.int .i64 (nd L q).c) := flat_get4 (x := (q : Int)) hq
  show Cl _ _ [_, _, _, .agg [Value.int .i64 10, Value.int .u64 0, Value.int .i64 i, Value.int .i64 zb, Value.int .i64 zc].toArray] _ _
  refine Run.calls4 (n := 364) Try.func27 rfl rfl rfl ?_
  by_cases h8 : (nd L q).k = 8
  · have htk : takenV L 10 q y = ((nd L q).a, 0) := by unfold takenV; rw [if_neg (by omega), if_pos h8]; rfl
    have tok : True := trivial
    have tok2 : True := trivial
    have tok3 : True := trivial
    repeat' first
      | (have _ := tok; clear tok; apply RO.op; apply OP.box hS; rfl; rfl; rfl; clear hS; intro b4 w1 hS)
      | (have _ := tok2; clear tok2; apply RO.op; apply OP.box hS; rfl; rfl; rfl; clear hS; intro b7 w1 hS)
      | (have _ := tok3; clear tok3; refine Run.regionQ_of hS (by rfl) (by kernel_rfl) ?_; clear hS)
      | (refine RQ.still (by apply Still.load; rfl; rfl; (exact Rd.any); exact f0) rfl ?_)
      | (refine RQ.still (by apply Still.load; rfl; rfl; (exact Rd.any); exact f2) rfl ?_)
      | (refine RQ.still (by apply Still.load; rfl; rfl; (exact Rd.any); exact l0) rfl ?_)
      | (apply RQ.callF; rfl; rfl; rfl; (show ∀ w, _ → Cl _ 43 _ _ _; exact fun w hS => hah hS))
      | (refine RQ.split ?_ ?_ <;> intro hc <;> try (first | (exfalso; omega) | exact absurd rfl hc | exact Bool.noConfusion hc))
      | (refine RQ.nil ?_; (try clear hS); intro w1 hS)
      | refine RQ.still (by exact Still.any) rfl ?_
      | refine RQ.yes rfl rfl ?_
      | refine RQ.no rfl rfl rfl rfl ?_
      | refine RQ.noUndef rfl rfl rfl ?_
      | refine Run.seq ?_
      | refine Run.region ?_
      | (refine RO.split ?_ ?_ <;> intro hc <;> try (first | (exfalso; omega) | exact absurd rfl hc | exact Bool.noConfusion hc))
      | refine RO.nil ?_
      | refine RO.still (by exact Still.any) hS rfl ?_
      | (apply RO.op; apply OP.box hS; rfl; rfl; rfl; clear hS; intro b w1 hS)
      | (apply RO.op; apply OP.alloc hS; rfl; rfl; rfl; clear hS; intro b w1 hS)
      | (apply RO.op; apply OP.store hS; rfl; rfl; rfl; rfl; rfl; (focus ((repeat (first | apply Has.head | apply Take.head | apply Put.head | apply Has.tail | apply Take.tail | apply Put.tail)); done)); rfl; rfl; clear hS; intro w1 hS)
      | (apply RO.op; apply OP.buildSlice hS; rfl; rfl; (exact eqAuto); rfl; rfl; rfl; rfl; rfl; clear hS; intro b w1 hS)
      | (apply RO.op; apply OP.makeMap hS; rfl; clear hS; intro b w1 hS)
      | refine RO.yes rfl rfl ?_
      | refine RO.no rfl rfl rfl rfl ?_
      | refine RO.noUndef rfl rfl rfl ?_
      | refine RO.noNone rfl rfl rfl ?_
      | refine Run.cond_true rfl ?_
      | refine Run.cond_false rfl ?_
      | refine Run.skip ?_
      | refine Run.block ?_
      | refine Run.inBlock ?_
      | refine Run.exit rfl ?_
    replace hS : St we ρ (Row b7 [Value.int .i64 10, Value.int .u64 0, Value.int .i64 i, Value.int .i64 zb, Value.int .i64 zc] 77 :: Row b4 [.int .i64 lim, .slice (some ⟨r1, 0, none⟩) L.length cap1] 29 :: Row b [.int .i64 0, .slice none 0 0] 29 :: Row r1 (flat L ++ spare) 78 :: F) _ := hS.picks (by focus ((repeat (first | apply Picks.all | apply Picks.nil | (refine Picks.cons (by repeat (first | apply Take.head | apply Take.tail)) ?_) | apply Picks.drop)); done))
    refine (Run.regionH_cut (fun _ : Unit => Row b [.int .i64 lim, .slice (some ⟨r1, 0, none⟩) L.length cap1] 29 :: Row r1 (flat L ++ spare) 78 :: F)
      (fun _ => [(8, .pointer (some ⟨b, 0, none⟩)), (9, .int .i64 (nd L q).a), (10, .int .i64 0)])
      hS (.cons_cons _ (.cons_cons _ (.cons _ (List.Sublist.refl _)))) (by rfl) (by rfl) (by rfl) ?_ ?_)
    · clear hS
      intro w1 hS
      refine RH.relist (listed' := bm 14 0) (by kernel_rfl) ?_
      all_goals (apply RH.take (i := 0) (listed := (bm 14 0)) (listed' := (bm 14 1)); rfl; kernel_rfl; kernel_rfl; (first | (apply Still.load; rfl; rfl; (exact Rd.any); exact l0) | (apply Still.load; rfl; rfl; (exact Rd.any); exact f2) | (apply Still.load; rfl; rfl; (exact Rd.any); exact f3) | (apply Still.load; rfl; rfl; (exact Rd.any); exact f4) | (apply Still.load; rfl; rfl; (exact Rd.any); (first | rfl | exact flat_get0 (by assumption) | exact flat_get1 (by assumption) | exact flat_get2 (by assumption) | exact flat_get3 (by assumption) | exact flat_get4 (by assumption))) | (apply Still.loadAgg; rfl; rfl; (exact eqAuto); (exact Rd.any); (first | exact flat_take (by assumption) | rfl); rfl)); (first | exact hS | exact hS.tail | exact hS.sublist (by repeat (first | exact List.Sublist.refl _ | refine .cons_cons _ ?_ | refine .cons _ ?_))); rfl)
      all_goals (apply RH.take (i := 1) (listed := (bm 14 1)) (listed' := (bm 14 3)); rfl; kernel_rfl; kernel_rfl; (apply Still.fieldAddr; rfl; (exact eqAuto)); (first | exact hS | exact hS.tail | exact hS.sublist (by repeat (first | exact List.Sublist.refl _ | refine .cons_cons _ ?_ | refine .cons _ ?_))); rfl)
      all_goals (apply RH.take (i := 2) (listed := (bm 14 3)) (listed' := (bm 14 7)); rfl; kernel_rfl; kernel_rfl; (first | (apply Still.load; rfl; rfl; (exact Rd.any); exact l0) | (apply Still.load; rfl; rfl; (exact Rd.any); exact f2) | (apply Still.load; rfl; rfl; (exact Rd.any); exact f3) | (apply Still.load; rfl; rfl; (exact Rd.any); exact f4) | (apply Still.load; rfl; rfl; (exact Rd.any); (first | rfl | exact flat_get0 (by assumption) | exact flat_get1 (by assumption) | exact flat_get2 (by assumption) | exact flat_get3 (by assumption) | exact flat_get4 (by assumption))) | (apply Still.loadAgg; rfl; rfl; (exact eqAuto); (exact Rd.any); (first | exact flat_take (by assumption) | rfl); rfl)); (first | exact hS | exact hS.tail | exact hS.sublist (by repeat (first | exact List.Sublist.refl _ | refine .cons_cons _ ?_ | refine .cons _ ?_))); rfl)
      all_goals (apply RH.take (i := 3) (listed := (bm 14 7)) (listed' := (bm 14 15)); rfl; kernel_rfl; kernel_rfl; (apply Still.move; rfl); (first | exact hS | exact hS.tail | exact hS.sublist (by repeat (first | exact List.Sublist.refl _ | refine .cons_cons _ ?_ | refine .cons _ ?_))); rfl)
      all_goals (apply RH.take (i := 4) (listed := (bm 14 15)) (listed' := (bm 14 31)); rfl; kernel_rfl; kernel_rfl; (apply Still.fieldAddr; rfl; (exact eqAuto)); (first | exact hS | exact hS.tail | exact hS.sublist (by repeat (first | exact List.Sublist.refl _ | refine .cons_cons _ ?_ | refine .cons _ ?_))); rfl)
      all_goals (apply RH.take (i := 5) (listed := (bm 14 31)) (listed' := (bm 14 63)); rfl; kernel_rfl; kernel_rfl; (first | (apply Still.load; rfl; rfl; (exact Rd.any); exact l0) | (apply Still.load; rfl; rfl; (exact Rd.any); exact f2) | (apply Still.load; rfl; rfl; (exact Rd.any); exact f3) | (apply Still.load; rfl; rfl; (exact Rd.any); exact f4) | (apply Still.load; rfl; rfl; (exact Rd.any); (first | rfl | exact flat_get0 (by assumption) | exact flat_get1 (by assumption) | exact flat_get2 (by assumption) | exact flat_get3 (by assumption) | exact flat_get4 (by assumption))) | (apply Still.loadAgg; rfl; rfl; (exact eqAuto); (exact Rd.any); (first | exact flat_take (by assumption) | rfl); rfl)); (first | exact hS | exact hS.tail | exact hS.sublist (by repeat (first | exact List.Sublist.refl _ | refine .cons_cons _ ?_ | refine .cons _ ?_))); rfl)
      all_goals (apply RH.take (i := 6) (listed := (bm 14 63)) (listed' := (bm 14 127)); rfl; kernel_rfl; kernel_rfl; (first | (exact Still.any) | (apply Still.indexAddrA; rfl; rfl; rfl; (exact eqAuto); omega; omega; (first | (simp only [Int.toNat_natCast, Nat.mul_one, Nat.zero_add, Int.reduceToNat, Nat.reduceMul, Nat.reduceAdd, Nat.zero_mul]; exact rfl) | rfl))); (first | exact hS | exact hS.tail | exact hS.sublist (by repeat (first | exact List.Sublist.refl _ | refine .cons_cons _ ?_ | refine .cons _ ?_))); rfl)
      all_goals (apply RH.take (i := 7) (listed := (bm 14 127)) (listed' := (bm 14 255)); rfl; kernel_rfl; kernel_rfl; (first | (apply Still.load; rfl; rfl; (exact Rd.any); exact l0) | (apply Still.load; rfl; rfl; (exact Rd.any); exact f2) | (apply Still.load; rfl; rfl; (exact Rd.any); exact f3) | (apply Still.load; rfl; rfl; (exact Rd.any); exact f4) | (apply Still.load; rfl; rfl; (exact Rd.any); (first | rfl | exact flat_get0 (by assumption) | exact flat_get1 (by assumption) | exact flat_get2 (by assumption) | exact flat_get3 (by assumption) | exact flat_get4 (by assumption))) | (apply Still.loadAgg; rfl; rfl; (exact eqAuto); (exact Rd.any); (first | exact flat_take (by assumption) | rfl); rfl)); (first | exact hS | exact hS.tail | exact hS.sublist (by repeat (first | exact List.Sublist.refl _ | refine .cons_cons _ ?_ | refine .cons _ ?_))); rfl)
      all_goals (apply RH.take (i := 8) (listed := (bm 14 255)) (listed' := (bm 14 511)); rfl; kernel_rfl; kernel_rfl; (first | (exact Still.any) | (apply Still.indexAddrA; rfl; rfl; rfl; (exact eqAuto); omega; omega; (first | (simp only [Int.toNat_natCast, Nat.mul_one, Nat.zero_add, Int.reduceToNat, Nat.reduceMul, Nat.reduceAdd, Nat.zero_mul]; exact rfl) | rfl))); (first | exact hS | exact hS.tail | exact hS.sublist (by repeat (first | exact List.Sublist.refl _ | refine .cons_cons _ ?_ | refine .cons _ ?_))); rfl)
      all_goals (apply RH.take (i := 9) (listed := (bm 14 511)) (listed' := (bm 14 1023)); rfl; kernel_rfl; kernel_rfl; (apply Still.fieldAddr; rfl; (exact eqAuto)); (first | exact hS | exact hS.tail | exact hS.sublist (by repeat (first | exact List.Sublist.refl _ | refine .cons_cons _ ?_ | refine .cons _ ?_))); rfl)
      all_goals (apply RH.take (i := 10) (listed := (bm 14 1023)) (listed' := (bm 14 2047)); rfl; kernel_rfl; kernel_rfl; (first | (apply Still.load; rfl; rfl; (exact Rd.any); exact l0) | (apply Still.load; rfl; rfl; (exact Rd.any); exact f2) | (apply Still.load; rfl; rfl; (exact Rd.any); exact f3) | (apply Still.load; rfl; rfl; (exact Rd.any); exact f4) | (apply Still.load; rfl; rfl; (exact Rd.any); (first | rfl | exact flat_get0 (by assumption) | exact flat_get1 (by assumption) | exact flat_get2 (by assumption) | exact flat_get3 (by assumption) | exact flat_get4 (by assumption))) | (apply Still.loadAgg; rfl; rfl; (exact eqAuto); (exact Rd.any); (first | exact flat_take (by assumption) | rfl); rfl)); (first | exact hS | exact hS.tail | exact hS.sublist (by repeat (first | exact List.Sublist.refl _ | refine .cons_cons _ ?_ | refine .cons _ ?_))); rfl)
      all_goals
        apply RH.all1 (i := 11) (listed := (bm 14 2047))
        · kernel_rfl
        · apply RI.op (i := 11) (listed := (bm 14 2047)) (listed' := (bm 14 4095)); rfl; kernel_rfl
          all_goals try first
          | (apply OP.store hS; rfl; rfl; rfl; rfl; rfl; (focus ((repeat (first | apply Has.head | apply Take.head | apply Put.head | apply Has.tail | apply Take.tail | apply Put.tail)); done)); rfl; rfl; clear hS; intro w1 hS; refine ⟨(by first | exact hS | exact hS.tail | exact hS.sublist (by repeat (first | exact List.Sublist.refl _ | refine .cons_cons _ ?_ | refine .cons _ ?_))), ?_⟩)
          all_goals (apply RH.take (i := 12) (listed := (bm 14 4095)) (listed' := (bm 14 8191)); rfl; kernel_rfl; kernel_rfl; (apply Still.assign; rfl); (first | exact hS | exact hS.tail | exact hS.sublist (by repeat (first | exact List.Sublist.refl _ | refine .cons_cons _ ?_ | refine .cons _ ?_))); rfl)
          all_goals (apply RH.take (i := 13) (listed := (bm 14 8191)) (listed' := (bm 14 16383)); rfl; kernel_rfl; kernel_rfl; (apply Still.assign; rfl); (first | exact hS | exact hS.tail | exact hS.sublist (by repeat (first | exact List.Sublist.refl _ | refine .cons_cons _ ?_ | refine .cons _ ?_))); rfl)
          all_goals (apply RH.done (listed := (bm 14 16383)); kernel_rfl)
          all_goals (exact ⟨(), (by focus ((repeat (first | exact .nil | refine .cons rfl ?_)); done)), hS.picks (by focus ((repeat (first | apply Picks.all | apply Picks.nil | (refine Picks.cons (by repeat (first | apply Take.head | apply Take.tail)) ?_) | apply Picks.drop)); done))⟩)
    · clear hS
      rintro ⟨⟩ w1 hS
      repeat' first
        | refine Run.seq ?_
        | refine Run.region ?_
        | (refine RO.split ?_ ?_ <;> intro hc <;> try (first | (exfalso; omega) | exact absurd rfl hc | exact Bool.noConfusion hc))
        | refine RO.nil ?_
        | refine RO.still (by exact Still.any) hS rfl ?_
        | (apply RO.op; apply OP.box hS; rfl; rfl; rfl; clear hS; intro b w1 hS)
        | (apply RO.op; apply OP.alloc hS; rfl; rfl; rfl; clear hS; intro b w1 hS)
        | (apply RO.op; apply OP.store hS; rfl; rfl; rfl; rfl; rfl; (focus ((repeat (first | apply Has.head | apply Take.head | apply Put.head | apply Has.tail | apply Take.tail | apply Put.tail)); done)); rfl; rfl; clear hS; intro w1 hS)
        | (apply RO.op; apply OP.buildSlice hS; rfl; rfl; (exact eqAuto); rfl; rfl; rfl; rfl; rfl; clear hS; intro b w1 hS)
        | (apply RO.op; apply OP.makeMap hS; rfl; clear hS; intro b w1 hS)
        | refine RO.yes rfl rfl ?_
        | refine RO.no rfl rfl rfl rfl ?_
        | refine RO.noUndef rfl rfl rfl ?_
        | refine RO.noNone rfl rfl rfl ?_
        | refine Run.cond_true rfl ?_
        | refine Run.cond_false rfl ?_
        | refine Run.skip ?_
        | refine Run.block ?_
        | refine Run.inBlock ?_
        | refine Run.exit rfl ?_
      refine Run.ret Try.func27 rfl (.cell rfl (by first | exact run_loadAgg rfl rfl (hS.rd (by exact Rd.any)) (by rfl) (by rfl) | exact run_loadScalar rfl (cell_of (hS.rd (by exact Rd.any)) (by rfl))) (.tmp rfl (.tmp rfl .nil))) ?_
      rw [htk]
      exact ⟨rfl, ra_shut (r := r1) (cap := cap1) (spare := spare) rfl g1 g2 g3 g4 (hS.picks (by focus ((repeat (first | apply Picks.all | apply Picks.nil | (refine Picks.cons (by repeat (first | apply Take.head | apply Take.tail)) ?_) | apply Picks.drop)); done)))⟩
  · have htk : takenV L 10 q y = (0, 12) := by unfold takenV; rw [if_neg (by omega), if_neg h8]
    have tok : True := trivial
    have tok2 : True := trivial
    have tok3 : True := trivial
    repeat' first
      | (have _ := tok; clear tok; apply RO.op; apply OP.box hS; rfl; rfl; rfl; clear hS; intro b4 w1 hS)
      | (have _ := tok2; clear tok2; apply RO.op; apply OP.box hS; rfl; rfl; rfl; clear hS; intro b7 w1 hS)
      | (have _ := tok3; clear tok3; refine Run.regionQ_of hS (by rfl) (by kernel_rfl) ?_; clear hS)
      | (refine RQ.still (by apply Still.load; rfl; rfl; (exact Rd.any); exact f0) rfl ?_)
      | (refine RQ.still (by apply Still.load; rfl; rfl; (exact Rd.any); exact f2) rfl ?_)
      | (refine RQ.still (by apply Still.load; rfl; rfl; (exact Rd.any); exact l0) rfl ?_)
      | (apply RQ.callF; rfl; rfl; rfl; (show ∀ w, _ → Cl _ 43 _ _ _; exact fun w hS => hah hS))
      | (refine RQ.split ?_ ?_ <;> intro hc <;> try (first | (exfalso; omega) | exact absurd rfl hc | exact Bool.noConfusion hc))
      | (refine RQ.nil ?_; (try clear hS); intro w1 hS)
      | refine RQ.still (by exact Still.any) rfl ?_
      | refine RQ.yes rfl rfl ?_
      | refine RQ.no rfl rfl rfl rfl ?_
      | refine RQ.noUndef rfl rfl rfl ?_
      | refine Run.seq ?_
      | refine Run.region ?_
      | (refine RO.split ?_ ?_ <;> intro hc <;> try (first | (exfalso; omega) | exact absurd rfl hc | exact Bool.noConfusion hc))
      | refine RO.nil ?_
      | refine RO.still (by exact Still.any) hS rfl ?_
      | (apply RO.op; apply OP.box hS; rfl; rfl; rfl; clear hS; intro b w1 hS)
      | (apply RO.op; apply OP.alloc hS; rfl; rfl; rfl; clear hS; intro b w1 hS)
      | (apply RO.op; apply OP.store hS; rfl; rfl; rfl; rfl; rfl; (focus ((repeat (first | apply Has.head | apply Take.head | apply Put.head | apply Has.tail | apply Take.tail | apply Put.tail)); done)); rfl; rfl; clear hS; intro w1 hS)
      | (apply RO.op; apply OP.buildSlice hS; rfl; rfl; (exact eqAuto); rfl; rfl; rfl; rfl; rfl; clear hS; intro b w1 hS)
      | (apply RO.op; apply OP.makeMap hS; rfl; clear hS; intro b w1 hS)
      | refine RO.yes rfl rfl ?_
      | refine RO.no rfl rfl rfl rfl ?_
      | refine RO.noUndef rfl rfl rfl ?_
      | refine RO.noNone rfl rfl rfl ?_
      | refine Run.cond_true rfl ?_
      | refine Run.cond_false rfl ?_
      | refine Run.skip ?_
      | refine Run.block ?_
      | refine Run.inBlock ?_
      | refine Run.exit rfl ?_
    refine Run.ret Try.func27 rfl (.cell rfl (by first | exact run_loadAgg rfl rfl (hS.rd (by exact Rd.any)) (by rfl) (by rfl) | exact run_loadScalar rfl (cell_of (hS.rd (by exact Rd.any)) (by rfl))) (.tmp rfl (.tmp rfl .nil))) ?_
    rw [htk]
    exact ⟨rfl, ra_shut (r := r1) (cap := cap1) (spare := spare) rfl g1 g2 g3 g4 (hS.picks (by focus ((repeat (first | apply Picks.all | apply Picks.nil | (refine Picks.cons (by repeat (first | apply Take.head | apply Take.tail)) ?_) | apply Picks.drop)); done)))⟩

set_option maxHeartbeats 8000000 in
theorem refOne11 {zb zc y : Int} {q i : Nat} (ha : aheadS ⟨11, 0, i, zb, zc⟩ 1 made = true) (hi : i < made.length) (hl : Rd ρ F g (.cells cells.toArray 3 (0, 0))) (l0 : cells[i]? = some (.int .i64 q)) (hq : has L q = true)
    (hS : St we ρ (RA a lim L :: F) w) :
    Cl Try.prog 27 [a, hv, .slice (some ⟨g, 0, none⟩) made.length cl0, .agg (stpL ⟨11, 0, i, zb, zc⟩).toArray] w
      fun v w' => v = .tuple #[a, .int .i64 (takenV L 11 q y).1, .int .i64 (takenV L 11 q y).2] ∧ St we ρ (RA a lim L :: F) w' := by
  obtain ⟨r1, cap1, spare, rfl, g1, g2, g3, g4, hS⟩ := ra_open hS
  have hah : ∀ {w : World} {σ : List HP}, St we ρ σ w → _ := fun {w σ} hS => refAhead (w := w) (σ := σ) (s := ⟨11, 0, i, zb, zc⟩) (u := 1) (made := made) (by omega) hS
  simp only [ha] at hah
  have hql := (has_iff.1 hq).2
  have f0 : (flat L ++ spare)[q * 5]? = some (.int .i64 (nd L q).k) := flat_get0 (x := (q : Int)) hq
  have f2 : (flat L ++ spare)[q * 5 + 2]? = some (.int .i64 (nd L q).a) := flat_get2 (x := (q : Int)) hq
  have f3 : (flat L ++ spare)[q * 5 + 3]? = some (.int .i64 (nd L q).b) := flat_get3 (x := (q : Int)) hq
  have f4 : (flat L ++ spare)[q * 5 + 4]? = some (.int .i64 (nd L q).c) := flat_get4 (x := (q : Int)) hq
  show Cl _ _ [_, _, _, .agg [Value.int .i64 11, Value.int .u64 0, Value.int .i64 i, Value.int .i64 zb, Value.int .i64 zc].toArray] _ _
  refine Run.calls4 (n := 364) Try.func27 rfl rfl rfl ?_
  by_cases h8 : (nd L q).k = 8
  · have htk : takenV L 11 q y = ((nd L q).b, 0) := by unfold takenV; rw [if_neg (by omega), if_pos h8]; rfl
    have tok : True := trivial
    have tok2 : True := trivial
    have tok3 : True := trivial
    repeat' first
      | (have _ := tok; clear tok; apply RO.op; apply OP.box hS; rfl; rfl; rfl; clear hS; intro b4 w1 hS)
      | (have _ := tok2; clear tok2; apply RO.op; apply OP.box hS; rfl; rfl; rfl; clear hS; intro b7 w1 hS)
      | (have _ := tok3; clear tok3; refine Run.regionQ_of hS (by rfl) (by kernel_rfl) ?_; clear hS)
      | (refine RQ.still (by apply Still.load; rfl; rfl; (exact Rd.any); exact f0) rfl ?_)
      | (refine RQ.still (by apply Still.load; rfl; rfl; (exact Rd.any); exact f2) rfl ?_)
      | (refine RQ.still (by apply Still.load; rfl; rfl; (exact Rd.any); exact l0) rfl ?_)
      | (apply RQ.callF; rfl; rfl; rfl; (show ∀ w, _ → Cl _ 43 _ _ _; exact fun w hS => hah hS))
      | (refine RQ.split ?_ ?_ <;> intro hc <;> try (first | (exfalso; omega) | exact absurd rfl hc | exact Bool.noConfusion hc))
      | (refine RQ.nil ?_; (try clear hS); intro w1 hS)
      | refine RQ.still (by exact Still.any) rfl ?_
      | refine RQ.yes rfl rfl ?_
      | refine RQ.no rfl rfl rfl rfl ?_
      | refine RQ.noUndef rfl rfl rfl ?_
      | refine Run.seq ?_
      | refine Run.region ?_
      | (refine RO.split ?_ ?_ <;> intro hc <;> try (first | (exfalso; omega) | exact absurd rfl hc | exact Bool.noConfusion hc))
      | refine RO.nil ?_
      | refine RO.still (by exact Still.any) hS rfl ?_
      | (apply RO.op; apply OP.box hS; rfl; rfl; rfl; clear hS; intro b w1 hS)
      | (apply RO.op; apply OP.alloc hS; rfl; rfl; rfl; clear hS; intro b w1 hS)
      | (apply RO.op; apply OP.store hS; rfl; rfl; rfl; rfl; rfl; (focus ((repeat (first | apply Has.head | apply Take.head | apply Put.head | apply Has.tail | apply Take.tail | apply Put.tail)); done)); rfl; rfl; clear hS; intro w1 hS)
      | (apply RO.op; apply OP.buildSlice hS; rfl; rfl; (exact eqAuto); rfl; rfl; rfl; rfl; rfl; clear hS; intro b w1 hS)
      | (apply RO.op; apply OP.makeMap hS; rfl; clear hS; intro b w1 hS)
      | refine RO.yes rfl rfl ?_
      | refine RO.no rfl rfl rfl rfl ?_
      | refine RO.noUndef rfl rfl rfl ?_
      | refine RO.noNone rfl rfl rfl ?_
      | refine Run.cond_true rfl ?_
      | refine Run.cond_false rfl ?_
      | refine Run.skip ?_
      | refine Run.block ?_
      | refine Run.inBlock ?_
      | refine Run.exit rfl ?_
    replace hS : St we ρ (Row b7 [Value.int .i64 11, Value.int .u64 0, Value.int .i64 i, Value.int .i64 zb, Value.int .i64 zc] 77 :: Row b4 [.int .i64 lim, .slice (some ⟨r1, 0, none⟩) L.length cap1] 29 :: Row b [.int .i64 0, .slice none 0 0] 29 :: Row r1 (flat L ++ spare) 78 :: F) _ := hS.picks (by focus ((repeat (first | apply Picks.all | apply Picks.nil | (refine Picks.cons (by repeat (first | apply Take.head | apply Take.tail)) ?_) | apply Picks.drop)); done))
    refine (Run.regionH_cut (fun _ : Unit => Row b [.int .i64 lim, .slice (some ⟨r1, 0, none⟩) L.length cap1] 29 :: Row r1 (flat L ++ spare) 78 :: F)
      (fun _ => [(8, .pointer (some ⟨b, 0, none⟩)), (9, .int .i64 (nd L q).b), (10, .int .i64 0)])
      hS (.cons_cons _ (.cons_cons _ (.cons _ (List.Sublist.refl _)))) (by rfl) (by rfl) (by rfl) ?_ ?_)
    · clear hS
      intro w1 hS
      refine RH.relist (listed' := bm 14 0) (by kernel_rfl) ?_
      all_goals (apply RH.take (i := 0) (listed := (bm 14 0)) (listed' := (bm 14 1)); rfl; kernel_rfl; kernel_rfl; (first | (apply Still.load; rfl; rfl; (exact Rd.any); exact l0) | (apply Still.load; rfl; rfl; (exact Rd.any); exact f2) | (apply Still.load; rfl; rfl; (exact Rd.any); exact f3) | (apply Still.load; rfl; rfl; (exact Rd.any); exact f4) | (apply Still.load; rfl; rfl; (exact Rd.any); (first | rfl | exact flat_get0 (by assumption) | exact flat_get1 (by assumption) | exact flat_get2 (by assumption) | exact flat_get3 (by assumption) | exact flat_get4 (by assumption))) | (apply Still.loadAgg; rfl; rfl; (exact eqAuto); (exact Rd.any); (first | exact flat_take (by assumption) | rfl); rfl)); (first | exact hS | exact hS.tail | exact hS.sublist (by repeat (first | exact List.Sublist.refl _ | refine .cons_cons _ ?_ | refine .cons _ ?_))); rfl)
      all_goals (apply RH.take (i := 1) (listed := (bm 14 1)) (listed' := (bm 14 3)); rfl; kernel_rfl; kernel_rfl; (apply Still.fieldAddr; rfl; (exact eqAuto)); (first | exact hS | exact hS.tail | exact hS.sublist (by repeat (first | exact List.Sublist.refl _ | refine .cons_cons _ ?_ | refine .cons _ ?_))); rfl)
      all_goals (apply RH.take (i := 2) (listed := (bm 14 3)) (listed' := (bm 14 7)); rfl; kernel_rfl; kernel_rfl; (first | (apply Still.load; rfl; rfl; (exact Rd.any); exact l0) | (apply Still.load; rfl; rfl; (exact Rd.any); exact f2) | (apply Still.load; rfl; rfl; (exact Rd.any); exact f3) | (apply Still.load; rfl; rfl; (exact Rd.any); exact f4) | (apply Still.load; rfl; rfl; (exact Rd.any); (first | rfl | exact flat_get0 (by assumption) | exact flat_get1 (by assumption) | exact flat_get2 (by assumption) | exact flat_get3 (by assumption) | exact flat_get4 (by assumption))) | (apply Still.loadAgg; rfl; rfl; (exact eqAuto); (exact Rd.any); (first | exact flat_take (by assumption) | rfl); rfl)); (first | exact hS | exact hS.tail | exact hS.sublist (by repeat (first | exact List.Sublist.refl _ | refine .cons_cons _ ?_ | refine .cons _ ?_))); rfl)
      all_goals (apply RH.take (i := 3) (listed := (bm 14 7)) (listed' := (bm 14 15)); rfl; kernel_rfl; kernel_rfl; (apply Still.move; rfl); (first | exact hS | exact hS.tail | exact hS.sublist (by repeat (first | exact List.Sublist.refl _ | refine .cons_cons _ ?_ | refine .cons _ ?_))); rfl)
      all_goals (apply RH.take (i := 4) (listed := (bm 14 15)) (listed' := (bm 14 31)); rfl; kernel_rfl; kernel_rfl; (apply Still.fieldAddr; rfl; (exact eqAuto)); (first | exact hS | exact hS.tail | exact hS.sublist (by repeat (first | exact List.Sublist.refl _ | refine .cons_cons _ ?_ | refine .cons _ ?_))); rfl)
      all_goals (apply RH.take (i := 5) (listed := (bm 14 31)) (listed' := (bm 14 63)); rfl; kernel_rfl; kernel_rfl; (first | (apply Still.load; rfl; rfl; (exact Rd.any); exact l0) | (apply Still.load; rfl; rfl; (exact Rd.any); exact f2) | (apply Still.load; rfl; rfl; (exact Rd.any); exact f3) | (apply Still.load; rfl; rfl; (exact Rd.any); exact f4) | (apply Still.load; rfl; rfl; (exact Rd.any); (first | rfl | exact flat_get0 (by assumption) | exact flat_get1 (by assumption) | exact flat_get2 (by assumption) | exact flat_get3 (by assumption) | exact flat_get4 (by assumption))) | (apply Still.loadAgg; rfl; rfl; (exact eqAuto); (exact Rd.any); (first | exact flat_take (by assumption) | rfl); rfl)); (first | exact hS | exact hS.tail | exact hS.sublist (by repeat (first | exact List.Sublist.refl _ | refine .cons_cons _ ?_ | refine .cons _ ?_))); rfl)
      all_goals (apply RH.take (i := 6) (listed := (bm 14 63)) (listed' := (bm 14 127)); rfl; kernel_rfl; kernel_rfl; (first | (exact Still.any) | (apply Still.indexAddrA; rfl; rfl; rfl; (exact eqAuto); omega; omega; (first | (simp only [Int.toNat_natCast, Nat.mul_one, Nat.zero_add, Int.reduceToNat, Nat.reduceMul, Nat.reduceAdd, Nat.zero_mul]; exact rfl) | rfl))); (first | exact hS | exact hS.tail | exact hS.sublist (by repeat (first | exact List.Sublist.refl _ | refine .cons_cons _ ?_ | refine .cons _ ?_))); rfl)
      all_goals (apply RH.take (i := 7) (listed := (bm 14 127)) (listed' := (bm 14 255)); rfl; kernel_rfl; kernel_rfl; (first | (apply Still.load; rfl; rfl; (exact Rd.any); exact l0) | (apply Still.load; rfl; rfl; (exact Rd.any); exact f2) | (apply Still.load; rfl; rfl; (exact Rd.any); exact f3) | (apply Still.load; rfl; rfl; (exact Rd.any); exact f4) | (apply Still.load; rfl; rfl; (exact Rd.any); (first | rfl | exact flat_get0 (by assumption) | exact flat_get1 (by assumption) | exact flat_get2 (by assumption) | exact flat_get3 (by assumption) | exact flat_get4 (by assumption))) | (apply Still.loadAgg; rfl; rfl; (exact eqAuto); (exact Rd.any); (first | exact flat_take (by assumption) | rfl); rfl)); (first | exact hS | exact hS.tail | exact hS.sublist (by repeat (first | exact List.Sublist.refl _ | refine .cons_cons _ ?_ | refine .cons _ ?_))); rfl)
      all_goals (apply RH.take (i := 8) (listed := (bm 14 255)) (listed' := (bm 14 511)); rfl; kernel_rfl; kernel_rfl; (first | (exact Still.any) | (apply Still.indexAddrA; rfl; rfl; rfl; (exact eqAuto); omega; omega; (first | (simp only [Int.toNat_natCast, Nat.mul_one, Nat.zero_add, Int.reduceToNat, Nat.reduceMul, Nat.reduceAdd, Nat.zero_mul]; exact rfl) | rfl))); (first | exact hS | exact hS.tail | exact hS.sublist (by repeat (first | exact List.Sublist.refl _ | refine .cons_cons _ ?_ | refine .cons _ ?_))); rfl)
      all_goals (apply RH.take (i := 9) (listed := (bm 14 511)) (listed' := (bm 14 1023)); rfl; kernel_rfl; kernel_rfl; (apply Still.fieldAddr; rfl; (exact eqAuto)); (first | exact hS | exact hS.tail | exact hS.sublist (by repeat (first | exact List.Sublist.refl _ | refine .cons_cons _ ?_ | refine .cons _ ?_))); rfl)
      all_goals (apply RH.take (i := 10) (listed := (bm 14 1023)) (listed' := (bm 14 2047)); rfl; kernel_rfl; kernel_rfl; (first | (apply Still.load; rfl; rfl; (exact Rd.any); exact l0) | (apply Still.load; rfl; rfl; (exact Rd.any); exact f2) | (apply Still.load; rfl; rfl; (exact Rd.any); exact f3) | (apply Still.load; rfl; rfl; (exact Rd.any); exact f4) | (apply Still.load; rfl; rfl; (exact Rd.any); (first | rfl | exact flat_get0 (by assumption) | exact flat_get1 (by assumption) | exact flat_get2 (by assumption) | exact flat_get3 (by assumption) | exact flat_get4 (by assumption))) | (apply Still.loadAgg; rfl; rfl; (exact eqAuto); (exact Rd.any); (first | exact flat_take (by assumption) | rfl); rfl)); (first | exact hS | exact hS.tail | exact hS.sublist (by repeat (first | exact List.Sublist.refl _ | refine .cons_cons _ ?_ | refine .cons _ ?_))); rfl)
      all_goals
        apply RH.all1 (i := 11) (listed := (bm 14 2047))
        · kernel_rfl
        · apply RI.op (i := 11) (listed := (bm 14 2047)) (listed' := (bm 14 4095)); rfl; kernel_rfl
          all_goals try first
          | (apply OP.store hS; rfl; rfl; rfl; rfl; rfl; (focus ((repeat (first | apply Has.head | apply Take.head | apply Put.head | apply Has.tail | apply Take.tail | apply Put.tail)); done)); rfl; rfl; clear hS; intro w1 hS; refine ⟨(by first | exact hS | exact hS.tail | exact hS.sublist (by repeat (first | exact List.Sublist.refl _ | refine .cons_cons _ ?_ | refine .cons _ ?_))), ?_⟩)
          all_goals (apply RH.take (i := 12) (listed := (bm 14 4095)) (listed' := (bm 14 8191)); rfl; kernel_rfl; kernel_rfl; (apply Still.assign; rfl); (first | exact hS | exact hS.tail | exact hS.sublist (by repeat (first | exact List.Sublist.refl _ | refine .cons_cons _ ?_ | refine .cons _ ?_))); rfl)
          all_goals (apply RH.take (i := 13) (listed := (bm 14 8191)) (listed' := (bm 14 16383)); rfl; kernel_rfl; kernel_rfl; (apply Still.assign; rfl); (first | exact hS | exact hS.tail | exact hS.sublist (by repeat (first | exact List.Sublist.refl _ | refine .cons_cons _ ?_ | refine .cons _ ?_))); rfl)
          all_goals (apply RH.done (listed := (bm 14 16383)); kernel_rfl)
          all_goals (exact ⟨(), (by focus ((repeat (first | exact .nil | refine .cons rfl ?_)); done)), hS.picks (by focus ((repeat (first | apply Picks.all | apply Picks.nil | (refine Picks.cons (by repeat (first | apply Take.head | apply Take.tail)) ?_) | apply Picks.drop)); done))⟩)
    · clear hS
      rintro ⟨⟩ w1 hS
      repeat' first
        | refine Run.seq ?_
        | refine Run.region ?_
        | (refine RO.split ?_ ?_ <;> intro hc <;> try (first | (exfalso; omega) | exact absurd rfl hc | exact Bool.noConfusion hc))
        | refine RO.nil ?_
        | refine RO.still (by exact Still.any) hS rfl ?_
        | (apply RO.op; apply OP.box hS; rfl; rfl; rfl; clear hS; intro b w1 hS)
        | (apply RO.op; apply OP.alloc hS; rfl; rfl; rfl; clear hS; intro b w1 hS)
        | (apply RO.op; apply OP.store hS; rfl; rfl; rfl; rfl; rfl; (focus ((repeat (first | apply Has.head | apply Take.head | apply Put.head | apply Has.tail | apply Take.tail | apply Put.tail)); done)); rfl; rfl; clear hS; intro w1 hS)
        | (apply RO.op; apply OP.buildSlice hS; rfl; rfl; (exact eqAuto); rfl; rfl; rfl; rfl; rfl; clear hS; intro b w1 hS)
        | (apply RO.op; apply OP.makeMap hS; rfl; clear hS; intro b w1 hS)
        | refine RO.yes rfl rfl ?_
        | refine RO.no rfl rfl rfl rfl ?_
        | refine RO.noUndef rfl rfl rfl ?_
        | refine RO.noNone rfl rfl rfl ?_
        | refine Run.cond_true rfl ?_
        | refine Run.cond_false rfl ?_
        | refine Run.skip ?_
        | refine Run.block ?_
        | refine Run.inBlock ?_
        | refine Run.exit rfl ?_
      refine Run.ret Try.func27 rfl (.cell rfl (by first | exact run_loadAgg rfl rfl (hS.rd (by exact Rd.any)) (by rfl) (by rfl) | exact run_loadScalar rfl (cell_of (hS.rd (by exact Rd.any)) (by rfl))) (.tmp rfl (.tmp rfl .nil))) ?_
      rw [htk]
      exact ⟨rfl, ra_shut (r := r1) (cap := cap1) (spare := spare) rfl g1 g2 g3 g4 (hS.picks (by focus ((repeat (first | apply Picks.all | apply Picks.nil | (refine Picks.cons (by repeat (first | apply Take.head | apply Take.tail)) ?_) | apply Picks.drop)); done)))⟩
  · have htk : takenV L 11 q y = (0, 12) := by unfold takenV; rw [if_neg (by omega), if_neg h8]
    have tok : True := trivial
    have tok2 : True := trivial
    have tok3 : True := trivial
    repeat' first
      | (have _ := tok; clear tok; apply RO.op; apply OP.box hS; rfl; rfl; rfl; clear hS; intro b4 w1 hS)
      | (have _ := tok2; clear tok2; apply RO.op; apply OP.box hS; rfl; rfl; rfl; clear hS; intro b7 w1 hS)
      | (have _ := tok3; clear tok3; refine Run.regionQ_of hS (by rfl) (by kernel_rfl) ?_; clear hS)
      | (refine RQ.still (by apply Still.load; rfl; rfl; (exact Rd.any); exact f0) rfl ?_)
      | (refine RQ.still (by apply Still.load; rfl; rfl; (exact Rd.any); exact f2) rfl ?_)
      | (refine RQ.still (by apply Still.load; rfl; rfl; (exact Rd.any); exact l0) rfl ?_)
      | (apply RQ.callF; rfl; rfl; rfl; (show ∀ w, _ → Cl _ 43 _ _ _; exact fun w hS => hah hS))
      | (refine RQ.split ?_ ?_ <;> intro hc <;> try (first | (exfalso; omega) | exact absurd rfl hc | exact Bool.noConfusion hc))
      | (refine RQ.nil ?_; (try clear hS); intro w1 hS)
      | refine RQ.still (by exact Still.any) rfl ?_
      | refine RQ.yes rfl rfl ?_
      | refine RQ.no rfl rfl rfl rfl ?_
      | refine RQ.noUndef rfl rfl rfl ?_
      | refine Run.seq ?_
      | refine Run.region ?_
      | (refine RO.split ?_ ?_ <;> intro hc <;> try (first | (exfalso; omega) | exact absurd rfl hc | exact Bool.noConfusion hc))
      | refine RO.nil ?_
      | refine RO.still (by exact Still.any) hS rfl ?_
      | (apply RO.op; apply OP.box hS; rfl; rfl; rfl; clear hS; intro b w1 hS)
      | (apply RO.op; apply OP.alloc hS; rfl; rfl; rfl; clear hS; intro b w1 hS)
      | (apply RO.op; apply OP.store hS; rfl; rfl; rfl; rfl; rfl; (focus ((repeat (first | apply Has.head | apply Take.head | apply Put.head | apply Has.tail | apply Take.tail | apply Put.tail)); done)); rfl; rfl; clear hS; intro w1 hS)
      | (apply RO.op; apply OP.buildSlice hS; rfl; rfl; (exact eqAuto); rfl; rfl; rfl; rfl; rfl; clear hS; intro b w1 hS)
      | (apply RO.op; apply OP.makeMap hS; rfl; clear hS; intro b w1 hS)
      | refine RO.yes rfl rfl ?_
      | refine RO.no rfl rfl rfl rfl ?_
      | refine RO.noUndef rfl rfl rfl ?_
      | refine RO.noNone rfl rfl rfl ?_
      | refine Run.cond_true rfl ?_
      | refine Run.cond_false rfl ?_
      | refine Run.skip ?_
      | refine Run.block ?_
      | refine Run.inBlock ?_
      | refine Run.exit rfl ?_
    refine Run.ret Try.func27 rfl (.cell rfl (by first | exact run_loadAgg rfl rfl (hS.rd (by exact Rd.any)) (by rfl) (by rfl) | exact run_loadScalar rfl (cell_of (hS.rd (by exact Rd.any)) (by rfl))) (.tmp rfl (.tmp rfl .nil))) ?_
    rw [htk]
    exact ⟨rfl, ra_shut (r := r1) (cap := cap1) (spare := spare) rfl g1 g2 g3 g4 (hS.picks (by focus ((repeat (first | apply Picks.all | apply Picks.nil | (refine Picks.cons (by repeat (first | apply Take.head | apply Take.tail)) ?_) | apply Picks.drop)); done)))⟩

set_option maxHeartbeats 8000000 in
theorem refOne12 {zc y : Int} {q i j : Nat} (ha : aheadS ⟨12, 0, i, j, zc⟩ 2 made = true) (hi : i < made.length) (hj : j < made.length) (hl : Rd ρ F g (.cells cells.toArray 3 (0, 0))) (l0 : cells[i]? = some (.int .i64 q)) (l1 : cells[j]? = some (.int .i64 y)) (hq : has L q = true)
    (hS : St we ρ (RA a lim L :: F) w) :
    Cl Try.prog 27 [a, hv, .slice (some ⟨g, 0, none⟩) made.length cl0, .agg (stpL ⟨12, 0, i, j, zc⟩).toArray] w
      fun v w' => v = .tuple #[a, .int .i64 (takenV L 12 q y).1, .int .i64 (takenV L 12 q y).2] ∧ St we ρ (RA a lim L :: F) w' := by
  obtain ⟨r1, cap1, spare, rfl, g1, g2, g3, g4, hS⟩ := ra_open hS
  have hah : ∀ {w : World} {σ : List HP}, St we ρ σ w → _ := fun {w σ} hS => refAhead (w := w) (σ := σ) (s := ⟨12, 0, i, j, zc⟩) (u := 2) (made := made) (by omega) hS
  simp only [ha] at hah
  have hql := (has_iff.1 hq).2
  have f0 : (flat L ++ spare)[q * 5]? = some (.int .i64 (nd L q).k) := flat_get0 (x := (q : Int)) hq
  have f2 : (flat L ++ spare)[q * 5 + 2]? = some (.int .i64 (nd L q).a) := flat_get2 (x := (q : Int)) hq
  have f3 : (flat L ++ spare)[q * 5 + 3]? = some (.int .i64 (nd L q).b) := flat_get3 (x := (q : Int)) hq
  have f4 : (flat L ++ spare)[q * 5 + 4]? = some (.int .i64 (nd L q).c) := flat_get4 (x := (q : Int)) hq
  show Cl _ _ [_, _, _, .agg [Value.int .i64 12, Value.int .u64 0, Value.int .i64 i, Value.int .i64 j, Value.int .i64 zc].toArray] _ _
  refine Run.calls4 (n := 364) Try.func27 rfl rfl rfl ?_
  by_cases h7 : (nd L q).k = 7
  · by_cases hay : (nd L q).a = y
    · have htk : takenV L 12 q y = ((nd L q).c, 0) := by unfold takenV; rw [if_pos rfl, if_pos ⟨h7, hay⟩]
      have tok : True := trivial
      have tok2 : True := trivial
      have tok3 : True := trivial
      repeat' first
        | (have _ := tok; clear tok; apply RO.op; apply OP.box hS; rfl; rfl; rfl; clear hS; intro b4 w1 hS)
        | (have _ := tok2; clear tok2; apply RO.op; apply OP.box hS; rfl; rfl; rfl; clear hS; intro b7 w1 hS)
        | (have _ := tok3; clear tok3; refine Run.regionQ_of hS (by rfl) (by kernel_rfl) ?_; clear hS)
        | (refine RQ.still (by apply Still.load; rfl; rfl; (exact Rd.any); exact f0) rfl ?_)
        | (refine RQ.still (by apply Still.load; rfl; rfl; (exact Rd.any); exact f2) rfl ?_)
        | (refine RQ.still (by apply Still.load; rfl; rfl; (exact Rd.any); exact l0) rfl ?_)
        | (refine RQ.still (by apply Still.load; rfl; rfl; (exact Rd.any); exact l1) rfl ?_)
        | (apply RQ.callF; rfl; rfl; rfl; (show ∀ w, _ → Cl _ 43 _ _ _; exact fun w hS => hah hS))
        | (refine RQ.split ?_ ?_ <;> intro hc <;> try (first | (exfalso; omega) | exact absurd rfl hc | exact Bool.noConfusion hc))
        | (refine RQ.nil ?_; (try clear hS); intro w1 hS)
        | refine RQ.still (by exact Still.any) rfl ?_
        | refine RQ.yes rfl rfl ?_
        | refine RQ.no rfl rfl rfl rfl ?_
        | refine RQ.noUndef rfl rfl rfl ?_
        | refine Run.seq ?_
        | refine Run.region ?_
        | (refine RO.split ?_ ?_ <;> intro hc <;> try (first | (exfalso; omega) | exact absurd rfl hc | exact Bool.noConfusion hc))
        | refine RO.nil ?_
        | refine RO.still (by exact Still.any) hS rfl ?_
        | (apply RO.op; apply OP.box hS; rfl; rfl; rfl; clear hS; intro b w1 hS)
        | (apply RO.op; apply OP.alloc hS; rfl; rfl; rfl; clear hS; intro b w1 hS)
        | (apply RO.op; apply OP.store hS; rfl; rfl; rfl; rfl; rfl; (focus ((repeat (first | apply Has.head | apply Take.head | apply Put.head | apply Has.tail | apply Take.tail | apply Put.tail)); done)); rfl; rfl; clear hS; intro w1 hS)
        | (apply RO.op; apply OP.buildSlice hS; rfl; rfl; (exact eqAuto); rfl; rfl; rfl; rfl; rfl; clear hS; intro b w1 hS)
        | (apply RO.op; apply OP.makeMap hS; rfl; clear hS; intro b w1 hS)
        | refine RO.yes rfl rfl ?_
        | refine RO.no rfl rfl rfl rfl ?_
        | refine RO.noUndef rfl rfl rfl ?_
        | refine RO.noNone rfl rfl rfl ?_
        | refine Run.cond_true rfl ?_
        | refine Run.cond_false rfl ?_
        | refine Run.skip ?_
        | refine Run.block ?_
        | refine Run.inBlock ?_
        | refine Run.exit rfl ?_
      replace hS : St we ρ (Row b7 [Value.int .i64 12, Value.int .u64 0, Value.int .i64 i, Value.int .i64 j, Value.int .i64 zc] 77 :: Row b4 [.int .i64 lim, .slice (some ⟨r1, 0, none⟩) L.length cap1] 29 :: Row b [.int .i64 0, .slice none 0 0] 29 :: Row r1 (flat L ++ spare) 78 :: F) _ := hS.picks (by focus ((repeat (first | apply Picks.all | apply Picks.nil | (refine Picks.cons (by repeat (first | apply Take.head | apply Take.tail)) ?_) | apply Picks.drop)); done))
      refine (Run.regionH_cut (fun _ : Unit => Row b [.int .i64 lim, .slice (some ⟨r1, 0, none⟩) L.length cap1] 29 :: Row r1 (flat L ++ spare) 78 :: F)
        (fun _ => [(8, .pointer (some ⟨b, 0, none⟩)), (9, .int .i64 (nd L q).c), (10, .int .i64 0)])
        hS (.cons_cons _ (.cons_cons _ (.cons _ (List.Sublist.refl _)))) (by rfl) (by rfl) (by rfl) ?_ ?_)
      · clear hS
        intro w1 hS
        refine RH.relist (listed' := bm 14 0) (by kernel_rfl) ?_
        all_goals (apply RH.take (i := 0) (listed := (bm 14 0)) (listed' := (bm 14 1)); rfl; kernel_rfl; kernel_rfl; (first | (apply Still.load; rfl; rfl; (exact Rd.any); exact l0) | (apply Still.load; rfl; rfl; (exact Rd.any); exact f2) | (apply Still.load; rfl; rfl; (exact Rd.any); exact f3) | (apply Still.load; rfl; rfl; (exact Rd.any); exact f4) | (apply Still.load; rfl; rfl; (exact Rd.any); (first | rfl | exact flat_get0 (by assumption) | exact flat_get1 (by assumption) | exact flat_get2 (by assumption) | exact flat_get3 (by assumption) | exact flat_get4 (by assumption))) | (apply Still.loadAgg; rfl; rfl; (exact eqAuto); (exact Rd.any); (first | exact flat_take (by assumption) | rfl); rfl)); (first | exact hS | exact hS.tail | exact hS.sublist (by repeat (first | exact List.Sublist.refl _ | refine .cons_cons _ ?_ | refine .cons _ ?_))); rfl)
        all_goals (apply RH.take (i := 1) (listed := (bm 14 1)) (listed' := (bm 14 3)); rfl; kernel_rfl; kernel_rfl; (apply Still.fieldAddr; rfl; (exact eqAuto)); (first | exact hS | exact hS.tail | exact hS.sublist (by repeat (first | exact List.Sublist.refl _ | refine .cons_cons _ ?_ | refine .cons _ ?_))); rfl)
        all_goals (apply RH.take (i := 2) (listed := (bm 14 3)) (listed' := (bm 14 7)); rfl; kernel_rfl; kernel_rfl; (first | (apply Still.load; rfl; rfl; (exact Rd.any); exact l0) | (apply Still.load; rfl; rfl; (exact Rd.any); exact f2) | (apply Still.load; rfl; rfl; (exact Rd.any); exact f3) | (apply Still.load; rfl; rfl; (exact Rd.any); exact f4) | (apply Still.load; rfl; rfl; (exact Rd.any); (first | rfl | exact flat_get0 (by assumption) | exact flat_get1 (by assumption) | exact flat_get2 (by assumption) | exact flat_get3 (by assumption) | exact flat_get4 (by assumption))) | (apply Still.loadAgg; rfl; rfl; (exact eqAuto); (exact Rd.any); (first | exact flat_take (by assumption) | rfl); rfl)); (first | exact hS | exact hS.tail | exact hS.sublist (by repeat (first | exact List.Sublist.refl _ | refine .cons_cons _ ?_ | refine .cons _ ?_))); rfl)
        all_goals (apply RH.take (i := 3) (listed := (bm 14 7)) (listed' := (bm 14 15)); rfl; kernel_rfl; kernel_rfl; (apply Still.move; rfl); (first | exact hS | exact hS.tail | exact hS.sublist (by repeat (first | exact List.Sublist.refl _ | refine .cons_cons _ ?_ | refine .cons _ ?_))); rfl)
        all_goals (apply RH.take (i := 4) (listed := (bm 14 15)) (listed' := (bm 14 31)); rfl; kernel_rfl; kernel_rfl; (apply Still.fieldAddr; rfl; (exact eqAuto)); (first | exact hS | exact hS.tail | exact hS.sublist (by repeat (first | exact List.Sublist.refl _ | refine .cons_cons _ ?_ | refine .cons _ ?_))); rfl)
        all_goals (apply RH.take (i := 5) (listed := (bm 14 31)) (listed' := (bm 14 63)); rfl; kernel_rfl; kernel_rfl; (first | (apply Still.load; rfl; rfl; (exact Rd.any); exact l0) | (apply Still.load; rfl; rfl; (exact Rd.any); exact f2) | (apply Still.load; rfl; rfl; (exact Rd.any); exact f3) | (apply Still.load; rfl; rfl; (exact Rd.any); exact f4) | (apply Still.load; rfl; rfl; (exact Rd.any); (first | rfl | exact flat_get0 (by assumption) | exact flat_get1 (by assumption) | exact flat_get2 (by assumption) | exact flat_get3 (by assumption) | exact flat_get4 (by assumption))) | (apply Still.loadAgg; rfl; rfl; (exact eqAuto); (exact Rd.any); (first | exact flat_take (by assumption) | rfl); rfl)); (first | exact hS | exact hS.tail | exact hS.sublist (by repeat (first | exact List.Sublist.refl _ | refine .cons_cons _ ?_ | refine .cons _ ?_))); rfl)
        all_goals (apply RH.take (i := 6) (listed := (bm 14 63)) (listed' := (bm 14 127)); rfl; kernel_rfl; kernel_rfl; (first | (exact Still.any) | (apply Still.indexAddrA; rfl; rfl; rfl; (exact eqAuto); omega; omega; (first | (simp only [Int.toNat_natCast, Nat.mul_one, Nat.zero_add, Int.reduceToNat, Nat.reduceMul, Nat.reduceAdd, Nat.zero_mul]; exact rfl) | rfl))); (first | exact hS | exact hS.tail | exact hS.sublist (by repeat (first | exact List.Sublist.refl _ | refine .cons_cons _ ?_ | refine .cons _ ?_))); rfl)
        all_goals (apply RH.take (i := 7) (listed := (bm 14 127)) (listed' := (bm 14 255)); rfl; kernel_rfl; kernel_rfl; (first | (apply Still.load; rfl; rfl; (exact Rd.any); exact l0) | (apply Still.load; rfl; rfl; (exact Rd.any); exact f2) | (apply Still.load; rfl; rfl; (exact Rd.any); exact f3) | (apply Still.load; rfl; rfl; (exact Rd.any); exact f4) | (apply Still.load; rfl; rfl; (exact Rd.any); (first | rfl | exact flat_get0 (by assumption) | exact flat_get1 (by assumption) | exact flat_get2 (by assumption) | exact flat_get3 (by assumption) | exact flat_get4 (by assumption))) | (apply Still.loadAgg; rfl; rfl; (exact eqAuto); (exact Rd.any); (first | exact flat_take (by assumption) | rfl); rfl)); (first | exact hS | exact hS.tail | exact hS.sublist (by repeat (first | exact List.Sublist.refl _ | refine .cons_cons _ ?_ | refine .cons _ ?_))); rfl)
        all_goals (apply RH.take (i := 8) (listed := (bm 14 255)) (listed' := (bm 14 511)); rfl; kernel_rfl; kernel_rfl; (first | (exact Still.any) | (apply Still.indexAddrA; rfl; rfl; rfl; (exact eqAuto); omega; omega; (first | (simp only [Int.toNat_natCast, Nat.mul_one, Nat.zero_add, Int.reduceToNat, Nat.reduceMul, Nat.reduceAdd, Nat.zero_mul]; exact rfl) | rfl))); (first | exact hS | exact hS.tail | exact hS.sublist (by repeat (first | exact List.Sublist.refl _ | refine .cons_cons _ ?_ | refine .cons _ ?_))); rfl)
        all_goals (apply RH.take (i := 9) (listed := (bm 14 511)) (listed' := (bm 14 1023)); rfl; kernel_rfl; kernel_rfl; (apply Still.fieldAddr; rfl; (exact eqAuto)); (first | exact hS | exact hS.tail | exact hS.sublist (by repeat (first | exact List.Sublist.refl _ | refine .cons_cons _ ?_ | refine .cons _ ?_))); rfl)
        all_goals (apply RH.take (i := 10) (listed := (bm 14 1023)) (listed' := (bm 14 2047)); rfl; kernel_rfl; kernel_rfl; (first | (apply Still.load; rfl; rfl; (exact Rd.any); exact l0) | (apply Still.load; rfl; rfl; (exact Rd.any); exact f2) | (apply Still.load; rfl; rfl; (exact Rd.any); exact f3) | (apply Still.load; rfl; rfl; (exact Rd.any); exact f4) | (apply Still.load; rfl; rfl; (exact Rd.any); (first | rfl | exact flat_get0 (by assumption) | exact flat_get1 (by assumption) | exact flat_get2 (by assumption) | exact flat_get3 (by assumption) | exact flat_get4 (by assumption))) | (apply Still.loadAgg; rfl; rfl; (exact eqAuto); (exact Rd.any); (first | exact flat_take (by assumption) | rfl); rfl)); (first | exact hS | exact hS.tail | exact hS.sublist (by repeat (first | exact List.Sublist.refl _ | refine .cons_cons _ ?_ | refine .cons _ ?_))); rfl)
        all_goals
          apply RH.all1 (i := 11) (listed := (bm 14 2047))
          · kernel_rfl
          · apply RI.op (i := 11) (listed := (bm 14 2047)) (listed' := (bm 14 4095)); rfl; kernel_rfl
            all_goals try first
            | (apply OP.store hS; rfl; rfl; rfl; rfl; rfl; (focus ((repeat (first | apply Has.head | apply Take.head | apply Put.head | apply Has.tail | apply Take.tail | apply Put.tail)); done)); rfl; rfl; clear hS; intro w1 hS; refine ⟨(by first | exact hS | exact hS.tail | exact hS.sublist (by repeat (first | exact List.Sublist.refl _ | refine .cons_cons _ ?_ | refine .cons _ ?_))), ?_⟩)
            all_goals (apply RH.take (i := 12) (listed := (bm 14 4095)) (listed' := (bm 14 8191)); rfl; kernel_rfl; kernel_rfl; (apply Still.assign; rfl); (first | exact hS | exact hS.tail | exact hS.sublist (by repeat (first | exact List.Sublist.refl _ | refine .cons_cons _ ?_ | refine .cons _ ?_))); rfl)
            all_goals (apply RH.take (i := 13) (listed := (bm 14 8191)) (listed' := (bm 14 16383)); rfl; kernel_rfl; kernel_rfl; (apply Still.assign; rfl); (first | exact hS | exact hS.tail | exact hS.sublist (by repeat (first | exact List.Sublist.refl _ | refine .cons_cons _ ?_ | refine .cons _ ?_))); rfl)
            all_goals (apply RH.done (listed := (bm 14 16383)); kernel_rfl)
            all_goals (exact ⟨(), (by focus ((repeat (first | exact .nil | refine .cons rfl ?_)); done)), hS.picks (by focus ((repeat (first | apply Picks.all | apply Picks.nil | (refine Picks.cons (by repeat (first | apply Take.head | apply Take.tail)) ?_) | apply Picks.drop)); done))⟩)
      · clear hS
        rintro ⟨⟩ w1 hS
        repeat' first
          | refine Run.seq ?_
          | refine Run.region ?_
          | (refine RO.split ?_ ?_ <;> intro hc <;> try (first | (exfalso; omega) | exact absurd rfl hc | exact Bool.noConfusion hc))
          | refine RO.nil ?_
          | refine RO.still (by exact Still.any) hS rfl ?_
          | (apply RO.op; apply OP.box hS; rfl; rfl; rfl; clear hS; intro b w1 hS)
          | (apply RO.op; apply OP.alloc hS; rfl; rfl; rfl; clear hS; intro b w1 hS)
          | (apply RO.op; apply OP.store hS; rfl; rfl; rfl; rfl; rfl; (focus ((repeat (first | apply Has.head | apply Take.head | apply Put.head | apply Has.tail | apply Take.tail | apply Put.tail)); done)); rfl; rfl; clear hS; intro w1 hS)
          | (apply RO.op; apply OP.buildSlice hS; rfl; rfl; (exact eqAuto); rfl; rfl; rfl; rfl; rfl; clear hS; intro b w1 hS)
          | (apply RO.op; apply OP.makeMap hS; rfl; clear hS; intro b w1 hS)
          | refine RO.yes rfl rfl ?_
          | refine RO.no rfl rfl rfl rfl ?_
          | refine RO.noUndef rfl rfl rfl ?_
          | refine RO.noNone rfl rfl rfl ?_
          | refine Run.cond_true rfl ?_
          | refine Run.cond_false rfl ?_
          | refine Run.skip ?_
          | refine Run.block ?_
          | refine Run.inBlock ?_
          | refine Run.exit rfl ?_
        refine Run.ret Try.func27 rfl (.cell rfl (by first | exact run_loadAgg rfl rfl (hS.rd (by exact Rd.any)) (by rfl) (by rfl) | exact run_loadScalar rfl (cell_of (hS.rd (by exact Rd.any)) (by rfl))) (.tmp rfl (.tmp rfl .nil))) ?_
        rw [htk]
        exact ⟨rfl, ra_shut (r := r1) (cap := cap1) (spare := spare) rfl g1 g2 g3 g4 (hS.picks (by focus ((repeat (first | apply Picks.all | apply Picks.nil | (refine Picks.cons (by repeat (first | apply Take.head | apply Take.tail)) ?_) | apply Picks.drop)); done)))⟩
    · have htk : takenV L 12 q y = (0, 12) := by unfold takenV; rw [if_pos rfl, if_neg (fun h => hay h.2)]
      have tok : True := trivial
      have tok2 : True := trivial
      have tok3 : True := trivial
      repeat' first
        | (have _ := tok; clear tok; apply RO.op; apply OP.box hS; rfl; rfl; rfl; clear hS; intro b4 w1 hS)
        | (have _ := tok2; clear tok2; apply RO.op; apply OP.box hS; rfl; rfl; rfl; clear hS; intro b7 w1 hS)
        | (have _ := tok3; clear tok3; refine Run.regionQ_of hS (by rfl) (by kernel_rfl) ?_; clear hS)
        | (refine RQ.still (by apply Still.load; rfl; rfl; (exact Rd.any); exact f0) rfl ?_)
        | (refine RQ.still (by apply Still.load; rfl; rfl; (exact Rd.any); exact f2) rfl ?_)
        | (refine RQ.still (by apply Still.load; rfl; rfl; (exact Rd.any); exact l0) rfl ?_)
        | (refine RQ.still (by apply Still.load; rfl; rfl; (exact Rd.any); exact l1) rfl ?_)
        | (apply RQ.callF; rfl; rfl; rfl; (show ∀ w, _ → Cl _ 43 _ _ _; exact fun w hS => hah hS))
        | (refine RQ.split ?_ ?_ <;> intro hc <;> try (first | (exfalso; omega) | exact absurd rfl hc | exact Bool.noConfusion hc))
        | (refine RQ.nil ?_; (try clear hS); intro w1 hS)
        | refine RQ.still (by exact Still.any) rfl ?_
        | refine RQ.yes rfl rfl ?_
        | refine RQ.no rfl rfl rfl rfl ?_
        | refine RQ.noUndef rfl rfl rfl ?_
        | refine Run.seq ?_
        | refine Run.region ?_
        | (refine RO.split ?_ ?_ <;> intro hc <;> try (first | (exfalso; omega) | exact absurd rfl hc | exact Bool.noConfusion hc))
        | refine RO.nil ?_
        | refine RO.still (by exact Still.any) hS rfl ?_
        | (apply RO.op; apply OP.box hS; rfl; rfl; rfl; clear hS; intro b w1 hS)
        | (apply RO.op; apply OP.alloc hS; rfl; rfl; rfl; clear hS; intro b w1 hS)
        | (apply RO.op; apply OP.store hS; rfl; rfl; rfl; rfl; rfl; (focus ((repeat (first | apply Has.head | apply Take.head | apply Put.head | apply Has.tail | apply Take.tail | apply Put.tail)); done)); rfl; rfl; clear hS; intro w1 hS)
        | (apply RO.op; apply OP.buildSlice hS; rfl; rfl; (exact eqAuto); rfl; rfl; rfl; rfl; rfl; clear hS; intro b w1 hS)
        | (apply RO.op; apply OP.makeMap hS; rfl; clear hS; intro b w1 hS)
        | refine RO.yes rfl rfl ?_
        | refine RO.no rfl rfl rfl rfl ?_
        | refine RO.noUndef rfl rfl rfl ?_
        | refine RO.noNone rfl rfl rfl ?_
        | refine Run.cond_true rfl ?_
        | refine Run.cond_false rfl ?_
        | refine Run.skip ?_
        | refine Run.block ?_
        | refine Run.inBlock ?_
        | refine Run.exit rfl ?_
      refine Run.ret Try.func27 rfl (.cell rfl (by first | exact run_loadAgg rfl rfl (hS.rd (by exact Rd.any)) (by rfl) (by rfl) | exact run_loadScalar rfl (cell_of (hS.rd (by exact Rd.any)) (by rfl))) (.tmp rfl (.tmp rfl .nil))) ?_
      rw [htk]
      exact ⟨rfl, ra_shut (r := r1) (cap := cap1) (spare := spare) rfl g1 g2 g3 g4 (hS.picks (by focus ((repeat (first | apply Picks.all | apply Picks.nil | (refine Picks.cons (by repeat (first | apply Take.head | apply Take.tail)) ?_) | apply Picks.drop)); done)))⟩
  · have htk : takenV L 12 q y = (0, 12) := by unfold takenV; rw [if_pos rfl, if_neg (fun h => h7 h.1)]
    have tok : True := trivial
    have tok2 : True := trivial
    have tok3 : True := trivial
    repeat' first
      | (have _ := tok; clear tok; apply RO.op; apply OP.box hS; rfl; rfl; rfl; clear hS; intro b4 w1 hS)
      | (have _ := tok2; clear tok2; apply RO.op; apply OP.box hS; rfl; rfl; rfl; clear hS; intro b7 w1 hS)
      | (have _ := tok3; clear tok3; refine Run.regionQ_of hS (by rfl) (by kernel_rfl) ?_; clear hS)
      | (refine RQ.still (by apply Still.load; rfl; rfl; (exact Rd.any); exact f0) rfl ?_)
      | (refine RQ.still (by apply Still.load; rfl; rfl; (exact Rd.any); exact f2) rfl ?_)
      | (refine RQ.still (by apply Still.load; rfl; rfl; (exact Rd.any); exact l0) rfl ?_)
      | (refine RQ.still (by apply Still.load; rfl; rfl; (exact Rd.any); exact l1) rfl ?_)
      | (apply RQ.callF; rfl; rfl; rfl; (show ∀ w, _ → Cl _ 43 _ _ _; exact fun w hS => hah hS))
      | (refine RQ.split ?_ ?_ <;> intro hc <;> try (first | (exfalso; omega) | exact absurd rfl hc | exact Bool.noConfusion hc))
      | (refine RQ.nil ?_; (try clear hS); intro w1 hS)
      | refine RQ.still (by exact Still.any) rfl ?_
      | refine RQ.yes rfl rfl ?_
      | refine RQ.no rfl rfl rfl rfl ?_
      | refine RQ.noUndef rfl rfl rfl ?_
      | refine Run.seq ?_
      | refine Run.region ?_
      | (refine RO.split ?_ ?_ <;> intro hc <;> try (first | (exfalso; omega) | exact absurd rfl hc | exact Bool.noConfusion hc))
      | refine RO.nil ?_
      | refine RO.still (by exact Still.any) hS rfl ?_
      | (apply RO.op; apply OP.box hS; rfl; rfl; rfl; clear hS; intro b w1 hS)
      | (apply RO.op; apply OP.alloc hS; rfl; rfl; rfl; clear hS; intro b w1 hS)
      | (apply RO.op; apply OP.store hS; rfl; rfl; rfl; rfl; rfl; (focus ((repeat (first | apply Has.head | apply Take.head | apply Put.head | apply Has.tail | apply Take.tail | apply Put.tail)); done)); rfl; rfl; clear hS; intro w1 hS)
      | (apply RO.op; apply OP.buildSlice hS; rfl; rfl; (exact eqAuto); rfl; rfl; rfl; rfl; rfl; clear hS; intro b w1 hS)
      | (apply RO.op; apply OP.makeMap hS; rfl; clear hS; intro b w1 hS)
      | refine RO.yes rfl rfl ?_
      | refine RO.no rfl rfl rfl rfl ?_
      | refine RO.noUndef rfl rfl rfl ?_
      | refine RO.noNone rfl rfl rfl ?_
      | refine Run.cond_true rfl ?_
      | refine Run.cond_false rfl ?_
      | refine Run.skip ?_
      | refine Run.block ?_
      | refine Run.inBlock ?_
      | refine Run.exit rfl ?_
    refine Run.ret Try.func27 rfl (.cell rfl (by first | exact run_loadAgg rfl rfl (hS.rd (by exact Rd.any)) (by rfl) (by rfl) | exact run_loadScalar rfl (cell_of (hS.rd (by exact Rd.any)) (by rfl))) (.tmp rfl (.tmp rfl .nil))) ?_
    rw [htk]
    exact ⟨rfl, ra_shut (r := r1) (cap := cap1) (spare := spare) rfl g1 g2 g3 g4 (hS.picks (by focus ((repeat (first | apply Picks.all | apply Picks.nil | (refine Picks.cons (by repeat (first | apply Take.head | apply Take.tail)) ?_) | apply Picks.drop)); done)))⟩
end
end Go.Proofs.Ythejfodjielahaa
