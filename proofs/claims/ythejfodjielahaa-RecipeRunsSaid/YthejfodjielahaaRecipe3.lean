/-
  The layer of recipes in the program: what is taken, what is built.
-/
import Derived.Test.YthejfodjielahaaRecipe2
namespace Go.Proofs.Ythejfodjielahaa
set_option maxRecDepth 8000
set_option linter.unusedSimpArgs false
set_option linter.unusedVariables false
open Go Go.RowKit

section
variable {we w : World} {ρ : List (Nat × Obj)} {σ F : List HP} {kb p lim cb : Nat} {L : List Nd} {K : Int → Bool} {u v mv lv : Value} {heard made : List Int}

set_option maxHeartbeats 4000000 in
theorem taken_calls {op x y : Int} {g nl cl0 : Nat} {cells : List Value} (hop : op = 10 ∨ op = 11 ∨ op = 12) (hnl : 1 ≤ nl) (hnl2 : op = 12 → 2 ≤ nl) (hl : Rd ρ F g (.cells cells.toArray 3 (0, 0))) (l0 : cells[0]? = some (.int .i64 x)) (l1 : op = 12 → cells[1]? = some (.int .i64 y))
    (hS : St we ρ (Row cb [.pointer (some ⟨p, 0, none⟩), .pointer (some ⟨kb, 0, none⟩), mv] 65 :: Arena p lim L :: F) w) :
    Cl Try.prog 37 [.pointer (some ⟨cb, 0, none⟩), .int .i64 op, .slice (some ⟨g, 0, none⟩) nl cl0] w
      fun v w' => v = .tuple #[.int .i64 (takenV L op x y).1, .int .i64 (takenV L op x y).2] ∧ St we ρ (Row cb [.pointer (some ⟨p, 0, none⟩), .pointer (some ⟨kb, 0, none⟩), mv] 65 :: Arena p lim L :: F) w' := by
  refine Run.calls3 (n := 56) Try.func37 rfl rfl rfl ?_
  repeat' first
    | refine Run.seq ?_
    | refine Run.region ?_
    | (refine RO.split ?_ ?_ <;> intro hc <;> try (first | (exfalso; omega) | exact absurd rfl hc | exact Bool.noConfusion hc))
    | refine RO.nil ?_
    | refine RO.still (by exact Still.any) hS rfl ?_
    | (apply RO.op; apply OP.box hS; rfl; rfl; rfl; clear hS; intro b w1 hS)
    | (apply RO.op; apply OP.alloc hS; rfl; rfl; rfl; clear hS; intro b w1 hS)
    | (apply RO.op; apply OP.store hS; rfl; rfl; rfl; rfl; rfl; (focus ((repeat (first | apply Has.head | apply Take.head | apply Put.head | apply Has.tail | apply Take.tail | apply Put.tail)); done)); rfl; rfl; clear hS; intro w1 hS)
    | (apply RO.op; apply OP.buildSlice hS; rfl; rfl; (exact eqAuto); rfl; rfl; rfl; rfl; rfl; clear hS; intro b w1 hS)
    | (apply RO.op; apply OP.makeMap hS; rfl; clear hS; intro b w1 hS)
    | refine RO.yes rfl rfl ?_
    | refine RO.no rfl rfl rfl rfl ?_
    | refine RO.noUndef rfl rfl rfl ?_
    | refine RO.noNone rfl rfl rfl ?_
    | refine Run.cond_true rfl ?_
    | refine Run.cond_false rfl ?_
    | refine Run.skip ?_
    | refine Run.block ?_
    | refine Run.inBlock ?_
    | refine Run.exit rfl ?_
  replace hS := hS.take (A := Arena p lim L) (by focus ((repeat (first | apply Has.head | apply Take.head | apply Put.head | apply Has.tail | apply Take.tail | apply Put.tail)); done))
  refine (Run.regionH_cut (fun b : Nat => Row b (ndL (nd L x)) 57 :: Row cb [.pointer (some ⟨p, 0, none⟩), .pointer (some ⟨kb, 0, none⟩), mv] 65 :: Arena p lim L :: F)
    (fun b => [(1, .int .i64 op), (2, .slice (some ⟨g, 0, none⟩) nl cl0), (8, .pointer (some ⟨b, 0, none⟩))])
    hS (List.Sublist.refl _) (by rfl) (by rfl) (by rfl) ?_ ?_)
  · clear hS
    intro w1 hS
    refine RH.relist (listed' := bm 14 0) (by kernel_rfl) ?_
    all_goals (apply RH.take (i := 0) (listed := (bm 14 0)) (listed' := (bm 14 1)); rfl; kernel_rfl; kernel_rfl; (apply Still.move; rfl); (first | exact hS | exact hS.tail | exact hS.sublist (by repeat (first | exact List.Sublist.refl _ | refine .cons_cons _ ?_ | refine .cons _ ?_))); rfl)
    all_goals (apply RH.take (i := 1) (listed := (bm 14 1)) (listed' := (bm 14 3)); rfl; kernel_rfl; kernel_rfl; (first | (apply Still.nilCheck; rfl) | (apply Still.nilCheckF; rfl)); (first | exact hS | exact hS.tail | exact hS.sublist (by repeat (first | exact List.Sublist.refl _ | refine .cons_cons _ ?_ | refine .cons _ ?_))); rfl)
    all_goals (apply RH.take (i := 2) (listed := (bm 14 3)) (listed' := (bm 14 7)); rfl; kernel_rfl; kernel_rfl; (apply Still.fieldAddr; rfl; (exact eqAuto)); (first | exact hS | exact hS.tail | exact hS.sublist (by repeat (first | exact List.Sublist.refl _ | refine .cons_cons _ ?_ | refine .cons _ ?_))); rfl)
    all_goals (apply RH.take (i := 3) (listed := (bm 14 7)) (listed' := (bm 14 15)); rfl; kernel_rfl; kernel_rfl; (first | (apply Still.load; rfl; rfl; (exact Rd.any); exact l0) | (apply Still.load; rfl; rfl; (exact Rd.any); exact l1) | (apply Still.load; rfl; rfl; (exact Rd.any); exact l2) | (apply Still.load; rfl; rfl; (exact Rd.any); (first | rfl | exact flat_get0 (by assumption) | exact flat_get1 (by assumption) | exact flat_get2 (by assumption) | exact flat_get3 (by assumption) | exact flat_get4 (by assumption))) | (apply Still.loadAgg; rfl; rfl; (exact eqAuto); (exact Rd.any); (first | exact flat_take (by assumption) | rfl); rfl)); (first | exact hS | exact hS.tail | exact hS.sublist (by repeat (first | exact List.Sublist.refl _ | refine .cons_cons _ ?_ | refine .cons _ ?_))); rfl)
    all_goals (apply RH.take (i := 4) (listed := (bm 14 15)) (listed' := (bm 14 31)); rfl; kernel_rfl; kernel_rfl; (apply Still.move; rfl); (first | exact hS | exact hS.tail | exact hS.sublist (by repeat (first | exact List.Sublist.refl _ | refine .cons_cons _ ?_ | refine .cons _ ?_))); rfl)
    all_goals (apply RH.take (i := 5) (listed := (bm 14 31)) (listed' := (bm 14 63)); rfl; kernel_rfl; kernel_rfl; (first | (exact Still.any) | (apply Still.indexAddrA; rfl; rfl; rfl; (exact eqAuto); omega; omega; (first | (simp only [Int.toNat_natCast, Nat.mul_one, Nat.zero_add, Int.reduceToNat, Nat.reduceMul, Nat.reduceAdd, Nat.zero_mul]; exact rfl) | rfl))); (first | exact hS | exact hS.tail | exact hS.sublist (by repeat (first | exact List.Sublist.refl _ | refine .cons_cons _ ?_ | refine .cons _ ?_))); rfl)
    all_goals (apply RH.take (i := 6) (listed := (bm 14 63)) (listed' := (bm 14 127)); rfl; kernel_rfl; kernel_rfl; (first | (apply Still.load; rfl; rfl; (exact Rd.any); exact l0) | (apply Still.load; rfl; rfl; (exact Rd.any); exact l1) | (apply Still.load; rfl; rfl; (exact Rd.any); exact l2) | (apply Still.load; rfl; rfl; (exact Rd.any); (first | rfl | exact flat_get0 (by assumption) | exact flat_get1 (by assumption) | exact flat_get2 (by assumption) | exact flat_get3 (by assumption) | exact flat_get4 (by assumption))) | (apply Still.loadAgg; rfl; rfl; (exact eqAuto); (exact Rd.any); (first | exact flat_take (by assumption) | rfl); rfl)); (first | exact hS | exact hS.tail | exact hS.sublist (by repeat (first | exact List.Sublist.refl _ | refine .cons_cons _ ?_ | refine .cons _ ?_))); rfl)
    all_goals
      apply RH.all2 (i1 := 7) (i2 := 11) (listed := (bm 14 127))
      · kernel_rfl
      · apply RI.op (i := 7) (listed := (bm 14 127)) (listed' := (bm 14 255)); rfl; kernel_rfl
        all_goals try first
        | (apply OP.callF; rfl; rfl; rfl; show Cl _ 22 _ _ _; exact get_calls (hS.take (by focus ((repeat (first | apply Has.head | apply Take.head | apply Put.head | apply Has.tail | apply Take.tail | apply Put.tail)); done))); clear hS; rintro v w1 ⟨rfl, hS⟩; refine ⟨(by first | exact hS | exact hS.tail | exact hS.sublist (by repeat (first | exact List.Sublist.refl _ | refine .cons_cons _ ?_ | refine .cons _ ?_))), ?_⟩)
        | (apply OP.callF; rfl; rfl; rfl; show Cl _ 52 _ _ _; exact share_calls (hS.take (by focus ((repeat (first | apply Has.head | apply Take.head | apply Put.head | apply Has.tail | apply Take.tail | apply Put.tail)); done))); clear hS; rintro v w1 ⟨rfl, hS⟩; refine ⟨(by first | exact hS | exact hS.tail | exact hS.sublist (by repeat (first | exact List.Sublist.refl _ | refine .cons_cons _ ?_ | refine .cons _ ?_))), ?_⟩)
        | (apply OP.callF; rfl; rfl; rfl; show Cl _ 20 _ _ _; exact mk_calls (n := ⟨op, n, y0, y1, y2⟩) (hS.take (by focus ((repeat (first | apply Has.head | apply Take.head | apply Put.head | apply Has.tail | apply Take.tail | apply Put.tail)); done))); clear hS; rintro v w1 ⟨rfl, hS⟩; refine ⟨(by first | exact hS | exact hS.tail | exact hS.sublist (by repeat (first | exact List.Sublist.refl _ | refine .cons_cons _ ?_ | refine .cons _ ?_))), ?_⟩)
        | (refine OP.still (by exact Still.any) hS rfl ⟨(by first | exact hS | exact hS.tail | exact hS.sublist (by repeat (first | exact List.Sublist.refl _ | refine .cons_cons _ ?_ | refine .cons _ ?_))), ?_⟩)
        all_goals (apply RH.take (i := 8) (listed := (bm 14 255)) (listed' := (bm 14 511)); rfl; kernel_rfl; kernel_rfl; (apply Still.move; rfl); (first | exact hS | exact hS.tail | exact hS.sublist (by repeat (first | exact List.Sublist.refl _ | refine .cons_cons _ ?_ | refine .cons _ ?_))); rfl)
        all_goals (apply RH.take (i := 9) (listed := (bm 14 511)) (listed' := (bm 14 1023)); rfl; kernel_rfl; kernel_rfl; (apply Still.extract; rfl; rfl); (first | exact hS | exact hS.tail | exact hS.sublist (by repeat (first | exact List.Sublist.refl _ | refine .cons_cons _ ?_ | refine .cons _ ?_))); rfl)
        all_goals (apply RH.take (i := 10) (listed := (bm 14 1023)) (listed' := (bm 14 2047)); rfl; kernel_rfl; kernel_rfl; (apply Still.extract; rfl; rfl); (first | exact hS | exact hS.tail | exact hS.sublist (by repeat (first | exact List.Sublist.refl _ | refine .cons_cons _ ?_ | refine .cons _ ?_))); rfl)
        all_goals
          apply RH.all1 (i := 11) (listed := (bm 14 2047))
          · kernel_rfl
          · apply RI.op (i := 11) (listed := (bm 14 2047)) (listed' := (bm 14 4095)); rfl; kernel_rfl
            all_goals try first
            | (apply OP.alloc hS; rfl; rfl; rfl; clear hS; intro b w1 hS; refine ⟨(by first | exact hS | exact hS.tail | exact hS.sublist (by repeat (first | exact List.Sublist.refl _ | refine .cons_cons _ ?_ | refine .cons _ ?_))), ?_⟩)
            all_goals
              apply RH.all1 (i := 12) (listed := (bm 14 4095))
              · kernel_rfl
              · apply RI.op (i := 12) (listed := (bm 14 4095)) (listed' := (bm 14 8191)); rfl; kernel_rfl
                all_goals try first
                | (apply OP.store hS; rfl; rfl; rfl; rfl; rfl; (focus ((repeat (first | apply Has.head | apply Take.head | apply Put.head | apply Has.tail | apply Take.tail | apply Put.tail)); done)); rfl; rfl; clear hS; intro w1 hS; refine ⟨(by first | exact hS | exact hS.tail | exact hS.sublist (by repeat (first | exact List.Sublist.refl _ | refine .cons_cons _ ?_ | refine .cons _ ?_))), ?_⟩)
                all_goals (apply RH.take (i := 13) (listed := (bm 14 8191)) (listed' := (bm 14 16383)); rfl; kernel_rfl; kernel_rfl; (apply Still.assign; rfl); (first | exact hS | exact hS.tail | exact hS.sublist (by repeat (first | exact List.Sublist.refl _ | refine .cons_cons _ ?_ | refine .cons _ ?_))); rfl)
                all_goals (apply RH.done (listed := (bm 14 16383)); kernel_rfl)
                all_goals (exact ⟨_, (by focus ((repeat (first | exact .nil | refine .cons rfl ?_)); done)), hS.picks (by focus ((repeat (first | apply Picks.all | apply Picks.nil | (refine Picks.cons (by repeat (first | apply Take.head | apply Take.tail)) ?_) | apply Picks.drop)); done))⟩)
      · apply RI.op (i := 11) (listed := (bm 14 127)) (listed' := (bm 14 2175)); rfl; kernel_rfl
        all_goals try first
        | (apply OP.alloc hS; rfl; rfl; rfl; clear hS; intro b w1 hS; refine ⟨(by first | exact hS | exact hS.tail | exact hS.sublist (by repeat (first | exact List.Sublist.refl _ | refine .cons_cons _ ?_ | refine .cons _ ?_))), ?_⟩)
        all_goals
          apply RH.all1 (i := 7) (listed := (bm 14 2175))
          · kernel_rfl
          · apply RI.op (i := 7) (listed := (bm 14 2175)) (listed' := (bm 14 2303)); rfl; kernel_rfl
            all_goals try first
            | (apply OP.callF; rfl; rfl; rfl; show Cl _ 22 _ _ _; exact get_calls (hS.take (by focus ((repeat (first | apply Has.head | apply Take.head | apply Put.head | apply Has.tail | apply Take.tail | apply Put.tail)); done))); clear hS; rintro v w1 ⟨rfl, hS⟩; refine ⟨(by first | exact hS | exact hS.tail | exact hS.sublist (by repeat (first | exact List.Sublist.refl _ | refine .cons_cons _ ?_ | refine .cons _ ?_))), ?_⟩)
            | (apply OP.callF; rfl; rfl; rfl; show Cl _ 52 _ _ _; exact share_calls (hS.take (by focus ((repeat (first | apply Has.head | apply Take.head | apply Put.head | apply Has.tail | apply Take.tail | apply Put.tail)); done))); clear hS; rintro v w1 ⟨rfl, hS⟩; refine ⟨(by first | exact hS | exact hS.tail | exact hS.sublist (by repeat (first | exact List.Sublist.refl _ | refine .cons_cons _ ?_ | refine .cons _ ?_))), ?_⟩)
            | (apply OP.callF; rfl; rfl; rfl; show Cl _ 20 _ _ _; exact mk_calls (n := ⟨op, n, y0, y1, y2⟩) (hS.take (by focus ((repeat (first | apply Has.head | apply Take.head | apply Put.head | apply Has.tail | apply Take.tail | apply Put.tail)); done))); clear hS; rintro v w1 ⟨rfl, hS⟩; refine ⟨(by first | exact hS | exact hS.tail | exact hS.sublist (by repeat (first | exact List.Sublist.refl _ | refine .cons_cons _ ?_ | refine .cons _ ?_))), ?_⟩)
            | (refine OP.still (by exact Still.any) hS rfl ⟨(by first | exact hS | exact hS.tail | exact hS.sublist (by repeat (first | exact List.Sublist.refl _ | refine .cons_cons _ ?_ | refine .cons _ ?_))), ?_⟩)
            all_goals (apply RH.take (i := 8) (listed := (bm 14 2303)) (listed' := (bm 14 2559)); rfl; kernel_rfl; kernel_rfl; (apply Still.move; rfl); (first | exact hS | exact hS.tail | exact hS.sublist (by repeat (first | exact List.Sublist.refl _ | refine .cons_cons _ ?_ | refine .cons _ ?_))); rfl)
            all_goals (apply RH.take (i := 9) (listed := (bm 14 2559)) (listed' := (bm 14 3071)); rfl; kernel_rfl; kernel_rfl; (apply Still.extract; rfl; rfl); (first | exact hS | exact hS.tail | exact hS.sublist (by repeat (first | exact List.Sublist.refl _ | refine .cons_cons _ ?_ | refine .cons _ ?_))); rfl)
            all_goals (apply RH.take (i := 10) (listed := (bm 14 3071)) (listed' := (bm 14 4095)); rfl; kernel_rfl; kernel_rfl; (apply Still.extract; rfl; rfl); (first | exact hS | exact hS.tail | exact hS.sublist (by repeat (first | exact List.Sublist.refl _ | refine .cons_cons _ ?_ | refine .cons _ ?_))); rfl)
            all_goals
              apply RH.all1 (i := 12) (listed := (bm 14 4095))
              · kernel_rfl
              · apply RI.op (i := 12) (listed := (bm 14 4095)) (listed' := (bm 14 8191)); rfl; kernel_rfl
                all_goals try first
                | (apply OP.store hS; rfl; rfl; rfl; rfl; rfl; (focus ((repeat (first | apply Has.head | apply Take.head | apply Put.head | apply Has.tail | apply Take.tail | apply Put.tail)); done)); rfl; rfl; clear hS; intro w1 hS; refine ⟨(by first | exact hS | exact hS.tail | exact hS.sublist (by repeat (first | exact List.Sublist.refl _ | refine .cons_cons _ ?_ | refine .cons _ ?_))), ?_⟩)
                all_goals (apply RH.take (i := 13) (listed := (bm 14 8191)) (listed' := (bm 14 16383)); rfl; kernel_rfl; kernel_rfl; (apply Still.assign; rfl); (first | exact hS | exact hS.tail | exact hS.sublist (by repeat (first | exact List.Sublist.refl _ | refine .cons_cons _ ?_ | refine .cons _ ?_))); rfl)
                all_goals (apply RH.done (listed := (bm 14 16383)); kernel_rfl)
                all_goals (exact ⟨_, (by focus ((repeat (first | exact .nil | refine .cons rfl ?_)); done)), hS.picks (by focus ((repeat (first | apply Picks.all | apply Picks.nil | (refine Picks.cons (by repeat (first | apply Take.head | apply Take.tail)) ?_) | apply Picks.drop)); done))⟩)
  · clear hS
    rintro b w1 hS
    unfold takenV
    rcases hop with rfl | rfl | rfl
    · rw [if_neg (by omega)]
      by_cases h8 : (nd L x).k = 8
      · rw [if_pos h8, if_pos rfl]
        repeat' first
          | (refine Run.regionQ_of hS (by rfl) (by kernel_rfl) ?_; clear hS)
          | (refine RQ.split ?_ ?_ <;> intro hc <;> try (first | (exfalso; omega) | exact absurd rfl hc | exact Bool.noConfusion hc))
          | (refine RQ.nil ?_; (try clear hS); intro w1 hS)
          | refine RQ.still (by exact Still.any) rfl ?_
          | refine RQ.yes rfl rfl ?_
          | refine RQ.no rfl rfl rfl rfl ?_
          | refine RQ.noUndef rfl rfl rfl ?_
          | refine Run.seq ?_
          | refine Run.region ?_
          | (refine RO.split ?_ ?_ <;> intro hc <;> try (first | (exfalso; omega) | exact absurd rfl hc | exact Bool.noConfusion hc))
          | refine RO.nil ?_
          | refine RO.still (by exact Still.any) hS rfl ?_
          | (apply RO.op; apply OP.box hS; rfl; rfl; rfl; clear hS; intro b w1 hS)
          | (apply RO.op; apply OP.alloc hS; rfl; rfl; rfl; clear hS; intro b w1 hS)
          | (apply RO.op; apply OP.store hS; rfl; rfl; rfl; rfl; rfl; (focus ((repeat (first | apply Has.head | apply Take.head | apply Put.head | apply Has.tail | apply Take.tail | apply Put.tail)); done)); rfl; rfl; clear hS; intro w1 hS)
          | (apply RO.op; apply OP.buildSlice hS; rfl; rfl; (exact eqAuto); rfl; rfl; rfl; rfl; rfl; clear hS; intro b w1 hS)
          | (apply RO.op; apply OP.makeMap hS; rfl; clear hS; intro b w1 hS)
          | refine RO.yes rfl rfl ?_
          | refine RO.no rfl rfl rfl rfl ?_
          | refine RO.noUndef rfl rfl rfl ?_
          | refine RO.noNone rfl rfl rfl ?_
          | refine Run.cond_true rfl ?_
          | refine Run.cond_false rfl ?_
          | refine Run.skip ?_
          | refine Run.block ?_
          | refine Run.inBlock ?_
          | refine Run.exit rfl ?_
        refine Run.ret Try.func37 rfl (.tmp rfl (.tmp rfl .nil)) ?_
        exact ⟨rfl, hS.picks (by focus ((repeat (first | apply Picks.all | apply Picks.nil | (refine Picks.cons (by repeat (first | apply Take.head | apply Take.tail)) ?_) | apply Picks.drop)); done))⟩
      · rw [if_neg h8]
        repeat' first
          | (refine Run.regionQ_of hS (by rfl) (by kernel_rfl) ?_; clear hS)
          | (refine RQ.split ?_ ?_ <;> intro hc <;> try (first | (exfalso; omega) | exact absurd rfl hc | exact Bool.noConfusion hc))
          | (refine RQ.nil ?_; (try clear hS); intro w1 hS)
          | refine RQ.still (by exact Still.any) rfl ?_
          | refine RQ.yes rfl rfl ?_
          | refine RQ.no rfl rfl rfl rfl ?_
          | refine RQ.noUndef rfl rfl rfl ?_
          | refine Run.seq ?_
          | refine Run.region ?_
          | (refine RO.split ?_ ?_ <;> intro hc <;> try (first | (exfalso; omega) | exact absurd rfl hc | exact Bool.noConfusion hc))
          | refine RO.nil ?_
          | refine RO.still (by exact Still.any) hS rfl ?_
          | (apply RO.op; apply OP.box hS; rfl; rfl; rfl; clear hS; intro b w1 hS)
          | (apply RO.op; apply OP.alloc hS; rfl; rfl; rfl; clear hS; intro b w1 hS)
          | (apply RO.op; apply OP.store hS; rfl; rfl; rfl; rfl; rfl; (focus ((repeat (first | apply Has.head | apply Take.head | apply Put.head | apply Has.tail | apply Take.tail | apply Put.tail)); done)); rfl; rfl; clear hS; intro w1 hS)
          | (apply RO.op; apply OP.buildSlice hS; rfl; rfl; (exact eqAuto); rfl; rfl; rfl; rfl; rfl; clear hS; intro b w1 hS)
          | (apply RO.op; apply OP.makeMap hS; rfl; clear hS; intro b w1 hS)
          | refine RO.yes rfl rfl ?_
          | refine RO.no rfl rfl rfl rfl ?_
          | refine RO.noUndef rfl rfl rfl ?_
          | refine RO.noNone rfl rfl rfl ?_
          | refine Run.cond_true rfl ?_
          | refine Run.cond_false rfl ?_
          | refine Run.skip ?_
          | refine Run.block ?_
          | refine Run.inBlock ?_
          | refine Run.exit rfl ?_
        refine Run.ret Try.func37 rfl (.tmp rfl (.tmp rfl .nil)) ?_
        exact ⟨rfl, hS.picks (by focus ((repeat (first | apply Picks.all | apply Picks.nil | (refine Picks.cons (by repeat (first | apply Take.head | apply Take.tail)) ?_) | apply Picks.drop)); done))⟩
    · rw [if_neg (by omega)]
      by_cases h8 : (nd L x).k = 8
      · rw [if_pos h8, if_neg (by omega)]
        repeat' first
          | (refine Run.regionQ_of hS (by rfl) (by kernel_rfl) ?_; clear hS)
          | (refine RQ.split ?_ ?_ <;> intro hc <;> try (first | (exfalso; omega) | exact absurd rfl hc | exact Bool.noConfusion hc))
          | (refine RQ.nil ?_; (try clear hS); intro w1 hS)
          | refine RQ.still (by exact Still.any) rfl ?_
          | refine RQ.yes rfl rfl ?_
          | refine RQ.no rfl rfl rfl rfl ?_
          | refine RQ.noUndef rfl rfl rfl ?_
          | refine Run.seq ?_
          | refine Run.region ?_
          | (refine RO.split ?_ ?_ <;> intro hc <;> try (first | (exfalso; omega) | exact absurd rfl hc | exact Bool.noConfusion hc))
          | refine RO.nil ?_
          | refine RO.still (by exact Still.any) hS rfl ?_
          | (apply RO.op; apply OP.box hS; rfl; rfl; rfl; clear hS; intro b w1 hS)
          | (apply RO.op; apply OP.alloc hS; rfl; rfl; rfl; clear hS; intro b w1 hS)
          | (apply RO.op; apply OP.store hS; rfl; rfl; rfl; rfl; rfl; (focus ((repeat (first | apply Has.head | apply Take.head | apply Put.head | apply Has.tail | apply Take.tail | apply Put.tail)); done)); rfl; rfl; clear hS; intro w1 hS)
          | (apply RO.op; apply OP.buildSlice hS; rfl; rfl; (exact eqAuto); rfl; rfl; rfl; rfl; rfl; clear hS; intro b w1 hS)
          | (apply RO.op; apply OP.makeMap hS; rfl; clear hS; intro b w1 hS)
          | refine RO.yes rfl rfl ?_
          | refine RO.no rfl rfl rfl rfl ?_
          | refine RO.noUndef rfl rfl rfl ?_
          | refine RO.noNone rfl rfl rfl ?_
          | refine Run.cond_true rfl ?_
          | refine Run.cond_false rfl ?_
          | refine Run.skip ?_
          | refine Run.block ?_
          | refine Run.inBlock ?_
          | refine Run.exit rfl ?_
        refine Run.ret Try.func37 rfl (.tmp rfl (.tmp rfl .nil)) ?_
        exact ⟨rfl, hS.picks (by focus ((repeat (first | apply Picks.all | apply Picks.nil | (refine Picks.cons (by repeat (first | apply Take.head | apply Take.tail)) ?_) | apply Picks.drop)); done))⟩
      · rw [if_neg h8]
        repeat' first
          | (refine Run.regionQ_of hS (by rfl) (by kernel_rfl) ?_; clear hS)
          | (refine RQ.split ?_ ?_ <;> intro hc <;> try (first | (exfalso; omega) | exact absurd rfl hc | exact Bool.noConfusion hc))
          | (refine RQ.nil ?_; (try clear hS); intro w1 hS)
          | refine RQ.still (by exact Still.any) rfl ?_
          | refine RQ.yes rfl rfl ?_
          | refine RQ.no rfl rfl rfl rfl ?_
          | refine RQ.noUndef rfl rfl rfl ?_
          | refine Run.seq ?_
          | refine Run.region ?_
          | (refine RO.split ?_ ?_ <;> intro hc <;> try (first | (exfalso; omega) | exact absurd rfl hc | exact Bool.noConfusion hc))
          | refine RO.nil ?_
          | refine RO.still (by exact Still.any) hS rfl ?_
          | (apply RO.op; apply OP.box hS; rfl; rfl; rfl; clear hS; intro b w1 hS)
          | (apply RO.op; apply OP.alloc hS; rfl; rfl; rfl; clear hS; intro b w1 hS)
          | (apply RO.op; apply OP.store hS; rfl; rfl; rfl; rfl; rfl; (focus ((repeat (first | apply Has.head | apply Take.head | apply Put.head | apply Has.tail | apply Take.tail | apply Put.tail)); done)); rfl; rfl; clear hS; intro w1 hS)
          | (apply RO.op; apply OP.buildSlice hS; rfl; rfl; (exact eqAuto); rfl; rfl; rfl; rfl; rfl; clear hS; intro b w1 hS)
          | (apply RO.op; apply OP.makeMap hS; rfl; clear hS; intro b w1 hS)
          | refine RO.yes rfl rfl ?_
          | refine RO.no rfl rfl rfl rfl ?_
          | refine RO.noUndef rfl rfl rfl ?_
          | refine RO.noNone rfl rfl rfl ?_
          | refine Run.cond_true rfl ?_
          | refine Run.cond_false rfl ?_
          | refine Run.skip ?_
          | refine Run.block ?_
          | refine Run.inBlock ?_
          | refine Run.exit rfl ?_
        refine Run.ret Try.func37 rfl (.tmp rfl (.tmp rfl .nil)) ?_
        exact ⟨rfl, hS.picks (by focus ((repeat (first | apply Picks.all | apply Picks.nil | (refine Picks.cons (by repeat (first | apply Take.head | apply Take.tail)) ?_) | apply Picks.drop)); done))⟩
    · rw [if_pos rfl]
      have hnl3 := hnl2 rfl
      have l1' := l1 rfl
      by_cases h7 : (nd L x).k = 7 ∧ (nd L x).a = y
      · rw [if_pos h7]
        obtain ⟨h7, ha⟩ := h7
        repeat' first
          | (refine Run.regionQ_of hS (by rfl) (by kernel_rfl) ?_; clear hS)
          | (refine RQ.still (by apply Still.load; rfl; rfl; (exact Rd.any); exact l1') rfl ?_)
          | (refine RQ.split ?_ ?_ <;> intro hc <;> try (first | (exfalso; omega) | exact absurd rfl hc | exact Bool.noConfusion hc))
          | (refine RQ.nil ?_; (try clear hS); intro w1 hS)
          | refine RQ.still (by exact Still.any) rfl ?_
          | refine RQ.yes rfl rfl ?_
          | refine RQ.no rfl rfl rfl rfl ?_
          | refine RQ.noUndef rfl rfl rfl ?_
          | refine Run.seq ?_
          | refine Run.region ?_
          | (refine RO.split ?_ ?_ <;> intro hc <;> try (first | (exfalso; omega) | exact absurd rfl hc | exact Bool.noConfusion hc))
          | refine RO.nil ?_
          | refine RO.still (by exact Still.any) hS rfl ?_
          | (apply RO.op; apply OP.box hS; rfl; rfl; rfl; clear hS; intro b w1 hS)
          | (apply RO.op; apply OP.alloc hS; rfl; rfl; rfl; clear hS; intro b w1 hS)
          | (apply RO.op; apply OP.store hS; rfl; rfl; rfl; rfl; rfl; (focus ((repeat (first | apply Has.head | apply Take.head | apply Put.head | apply Has.tail | apply Take.tail | apply Put.tail)); done)); rfl; rfl; clear hS; intro w1 hS)
          | (apply RO.op; apply OP.buildSlice hS; rfl; rfl; (exact eqAuto); rfl; rfl; rfl; rfl; rfl; clear hS; intro b w1 hS)
          | (apply RO.op; apply OP.makeMap hS; rfl; clear hS; intro b w1 hS)
          | refine RO.yes rfl rfl ?_
          | refine RO.no rfl rfl rfl rfl ?_
          | refine RO.noUndef rfl rfl rfl ?_
          | refine RO.noNone rfl rfl rfl ?_
          | refine Run.cond_true rfl ?_
          | refine Run.cond_false rfl ?_
          | refine Run.skip ?_
          | refine Run.block ?_
          | refine Run.inBlock ?_
          | refine Run.exit rfl ?_
        refine Run.ret Try.func37 rfl (.tmp rfl (.tmp rfl .nil)) ?_
        exact ⟨rfl, hS.picks (by focus ((repeat (first | apply Picks.all | apply Picks.nil | (refine Picks.cons (by repeat (first | apply Take.head | apply Take.tail)) ?_) | apply Picks.drop)); done))⟩
      · rw [if_neg h7]
        by_cases h77 : (nd L x).k = 7
        · have hay : ¬ (nd L x).a = y := fun h => h7 ⟨h77, h⟩
          repeat' first
            | (refine Run.regionQ_of hS (by rfl) (by kernel_rfl) ?_; clear hS)
            | (refine RQ.still (by apply Still.load; rfl; rfl; (exact Rd.any); exact l1') rfl ?_)
            | (refine RQ.split ?_ ?_ <;> intro hc <;> try (first | (exfalso; omega) | exact absurd rfl hc | exact Bool.noConfusion hc))
            | (refine RQ.nil ?_; (try clear hS); intro w1 hS)
            | refine RQ.still (by exact Still.any) rfl ?_
            | refine RQ.yes rfl rfl ?_
            | refine RQ.no rfl rfl rfl rfl ?_
            | refine RQ.noUndef rfl rfl rfl ?_
            | refine Run.seq ?_
            | refine Run.region ?_
            | (refine RO.split ?_ ?_ <;> intro hc <;> try (first | (exfalso; omega) | exact absurd rfl hc | exact Bool.noConfusion hc))
            | refine RO.nil ?_
            | refine RO.still (by exact Still.any) hS rfl ?_
            | (apply RO.op; apply OP.box hS; rfl; rfl; rfl; clear hS; intro b w1 hS)
            | (apply RO.op; apply OP.alloc hS; rfl; rfl; rfl; clear hS; intro b w1 hS)
            | (apply RO.op; apply OP.store hS; rfl; rfl; rfl; rfl; rfl; (focus ((repeat (first | apply Has.head | apply Take.head | apply Put.head | apply Has.tail | apply Take.tail | apply Put.tail)); done)); rfl; rfl; clear hS; intro w1 hS)
            | (apply RO.op; apply OP.buildSlice hS; rfl; rfl; (exact eqAuto); rfl; rfl; rfl; rfl; rfl; clear hS; intro b w1 hS)
            | (apply RO.op; apply OP.makeMap hS; rfl; clear hS; intro b w1 hS)
            | refine RO.yes rfl rfl ?_
            | refine RO.no rfl rfl rfl rfl ?_
            | refine RO.noUndef rfl rfl rfl ?_
            | refine RO.noNone rfl rfl rfl ?_
            | refine Run.cond_true rfl ?_
            | refine Run.cond_false rfl ?_
            | refine Run.skip ?_
            | refine Run.block ?_
            | refine Run.inBlock ?_
            | refine Run.exit rfl ?_
          refine Run.ret Try.func37 rfl (.tmp rfl (.tmp rfl .nil)) ?_
          exact ⟨rfl, hS.picks (by focus ((repeat (first | apply Picks.all | apply Picks.nil | (refine Picks.cons (by repeat (first | apply Take.head | apply Take.tail)) ?_) | apply Picks.drop)); done))⟩
        · repeat' first
            | (refine Run.regionQ_of hS (by rfl) (by kernel_rfl) ?_; clear hS)
            | (refine RQ.split ?_ ?_ <;> intro hc <;> try (first | (exfalso; omega) | exact absurd rfl hc | exact Bool.noConfusion hc))
            | (refine RQ.nil ?_; (try clear hS); intro w1 hS)
            | refine RQ.still (by exact Still.any) rfl ?_
            | refine RQ.yes rfl rfl ?_
            | refine RQ.no rfl rfl rfl rfl ?_
            | refine RQ.noUndef rfl rfl rfl ?_
            | refine Run.seq ?_
            | refine Run.region ?_
            | (refine RO.split ?_ ?_ <;> intro hc <;> try (first | (exfalso; omega) | exact absurd rfl hc | exact Bool.noConfusion hc))
            | refine RO.nil ?_
            | refine RO.still (by exact Still.any) hS rfl ?_
            | (apply RO.op; apply OP.box hS; rfl; rfl; rfl; clear hS; intro b w1 hS)
            | (apply RO.op; apply OP.alloc hS; rfl; rfl; rfl; clear hS; intro b w1 hS)
            | (apply RO.op; apply OP.store hS; rfl; rfl; rfl; rfl; rfl; (focus ((repeat (first | apply Has.head | apply Take.head | apply Put.head | apply Has.tail | apply Take.tail | apply Put.tail)); done)); rfl; rfl; clear hS; intro w1 hS)
            | (apply RO.op; apply OP.buildSlice hS; rfl; rfl; (exact eqAuto); rfl; rfl; rfl; rfl; rfl; clear hS; intro b w1 hS)
            | (apply RO.op; apply OP.makeMap hS; rfl; clear hS; intro b w1 hS)
            | refine RO.yes rfl rfl ?_
            | refine RO.no rfl rfl rfl rfl ?_
            | refine RO.noUndef rfl rfl rfl ?_
            | refine RO.noNone rfl rfl rfl ?_
            | refine Run.cond_true rfl ?_
            | refine Run.cond_false rfl ?_
            | refine Run.skip ?_
            | refine Run.block ?_
            | refine Run.inBlock ?_
            | refine Run.exit rfl ?_
          refine Run.ret Try.func37 rfl (.tmp rfl (.tmp rfl .nil)) ?_
          exact ⟨rfl, hS.picks (by focus ((repeat (first | apply Picks.all | apply Picks.nil | (refine Picks.cons (by repeat (first | apply Take.head | apply Take.tail)) ?_) | apply Picks.drop)); done))⟩

set_option maxHeartbeats 4000000 in
theorem built_share {s : Stp} {x y : Int} {g nl cl0 : Nat} {cells : List Value} (hop : s.op = 3) (hnl : 2 ≤ nl) (hl : Rd ρ F g (.cells cells.toArray 3 (0, 0))) (l0 : cells[0]? = some (.int .i64 x)) (l1 : cells[1]? = some (.int .i64 y))
    (hS : St we ρ (Arena p lim L :: Row cb [.pointer (some ⟨p, 0, none⟩), .pointer (some ⟨kb, 0, none⟩), mv] 65 :: F) w) :
    Cl Try.prog 38 [.pointer (some ⟨cb, 0, none⟩), .agg (stpL s).toArray, .slice (some ⟨g, 0, none⟩) nl cl0] w
      fun v w' => v = .tuple #[.int .i64 (share lim L x y).2.1, .int .i64 (share lim L x y).2.2] ∧ St we ρ (Arena p lim (share lim L x y).1 :: Row cb [.pointer (some ⟨p, 0, none⟩), .pointer (some ⟨kb, 0, none⟩), mv] 65 :: F) w' := by
  obtain ⟨op, n, z1, z2, z3⟩ := s
  simp only at hop
  subst hop
  show Cl _ _ [_, .agg [Value.int .i64 3, Value.int .u64 n, Value.int .i64 z1, Value.int .i64 z2, Value.int .i64 z3].toArray, _] _ _
  refine Run.calls3 (n := 55) Try.func38 rfl rfl rfl ?_
  repeat' first
    | refine Run.seq ?_
    | refine Run.region ?_
    | (refine RO.split ?_ ?_ <;> intro hc <;> try (first | (exfalso; omega) | exact absurd rfl hc | exact Bool.noConfusion hc))
    | refine RO.nil ?_
    | refine RO.still (by exact Still.any) hS rfl ?_
    | (apply RO.op; apply OP.box hS; rfl; rfl; rfl; clear hS; intro b w1 hS)
    | (apply RO.op; apply OP.alloc hS; rfl; rfl; rfl; clear hS; intro b w1 hS)
    | (apply RO.op; apply OP.store hS; rfl; rfl; rfl; rfl; rfl; (focus ((repeat (first | apply Has.head | apply Take.head | apply Put.head | apply Has.tail | apply Take.tail | apply Put.tail)); done)); rfl; rfl; clear hS; intro w1 hS)
    | (apply RO.op; apply OP.buildSlice hS; rfl; rfl; (exact eqAuto); rfl; rfl; rfl; rfl; rfl; clear hS; intro b w1 hS)
    | (apply RO.op; apply OP.makeMap hS; rfl; clear hS; intro b w1 hS)
    | refine RO.yes rfl rfl ?_
    | refine RO.no rfl rfl rfl rfl ?_
    | refine RO.noUndef rfl rfl rfl ?_
    | refine RO.noNone rfl rfl rfl ?_
    | refine Run.cond_true rfl ?_
    | refine Run.cond_false rfl ?_
    | refine Run.skip ?_
    | refine Run.block ?_
    | refine Run.inBlock ?_
    | refine Run.exit rfl ?_
  replace hS := hS.take (A := Arena p lim L) (by focus ((repeat (first | apply Has.head | apply Take.head | apply Put.head | apply Has.tail | apply Take.tail | apply Put.tail)); done))
  refine (Run.regionH_cut (fun _ : Unit => Arena p lim (share lim L x y).1 :: Row cb [.pointer (some ⟨p, 0, none⟩), .pointer (some ⟨kb, 0, none⟩), mv] 65 :: F)
    (fun _ => [(6, .int .i64 (share lim L x y).2.1), (7, .int .i64 (share lim L x y).2.2)])
    hS (.cons _ (List.Sublist.refl _)) (by rfl) (by rfl) (by rfl) ?_ ?_)
  · clear hS
    intro w1 hS
    refine RH.relist (listed' := bm 15 0) (by kernel_rfl) ?_
    all_goals (apply RH.take (i := 0) (listed := (bm 15 0)) (listed' := (bm 15 1)); rfl; kernel_rfl; kernel_rfl; (apply Still.move; rfl); (first | exact hS | exact hS.tail | exact hS.sublist (by repeat (first | exact List.Sublist.refl _ | refine .cons_cons _ ?_ | refine .cons _ ?_))); rfl)
    all_goals (apply RH.take (i := 1) (listed := (bm 15 1)) (listed' := (bm 15 3)); rfl; kernel_rfl; kernel_rfl; (first | (apply Still.nilCheck; rfl) | (apply Still.nilCheckF; rfl)); (first | exact hS | exact hS.tail | exact hS.sublist (by repeat (first | exact List.Sublist.refl _ | refine .cons_cons _ ?_ | refine .cons _ ?_))); rfl)
    all_goals (apply RH.take (i := 2) (listed := (bm 15 3)) (listed' := (bm 15 7)); rfl; kernel_rfl; kernel_rfl; (apply Still.fieldAddr; rfl; (exact eqAuto)); (first | exact hS | exact hS.tail | exact hS.sublist (by repeat (first | exact List.Sublist.refl _ | refine .cons_cons _ ?_ | refine .cons _ ?_))); rfl)
    all_goals (apply RH.take (i := 3) (listed := (bm 15 7)) (listed' := (bm 15 15)); rfl; kernel_rfl; kernel_rfl; (first | (apply Still.load; rfl; rfl; (exact Rd.any); exact l0) | (apply Still.load; rfl; rfl; (exact Rd.any); exact l1) | (apply Still.load; rfl; rfl; (exact Rd.any); exact l2) | (apply Still.load; rfl; rfl; (exact Rd.any); (first | rfl | exact flat_get0 (by assumption) | exact flat_get1 (by assumption) | exact flat_get2 (by assumption) | exact flat_get3 (by assumption) | exact flat_get4 (by assumption))) | (apply Still.loadAgg; rfl; rfl; (exact eqAuto); (exact Rd.any); (first | exact flat_take (by assumption) | rfl); rfl)); (first | exact hS | exact hS.tail | exact hS.sublist (by repeat (first | exact List.Sublist.refl _ | refine .cons_cons _ ?_ | refine .cons _ ?_))); rfl)
    all_goals (apply RH.take (i := 4) (listed := (bm 15 15)) (listed' := (bm 15 31)); rfl; kernel_rfl; kernel_rfl; (apply Still.move; rfl); (first | exact hS | exact hS.tail | exact hS.sublist (by repeat (first | exact List.Sublist.refl _ | refine .cons_cons _ ?_ | refine .cons _ ?_))); rfl)
    all_goals (apply RH.take (i := 5) (listed := (bm 15 31)) (listed' := (bm 15 63)); rfl; kernel_rfl; kernel_rfl; (first | (exact Still.any) | (apply Still.indexAddrA; rfl; rfl; rfl; (exact eqAuto); omega; omega; (first | (simp only [Int.toNat_natCast, Nat.mul_one, Nat.zero_add, Int.reduceToNat, Nat.reduceMul, Nat.reduceAdd, Nat.zero_mul]; exact rfl) | rfl))); (first | exact hS | exact hS.tail | exact hS.sublist (by repeat (first | exact List.Sublist.refl _ | refine .cons_cons _ ?_ | refine .cons _ ?_))); rfl)
    all_goals (apply RH.take (i := 6) (listed := (bm 15 63)) (listed' := (bm 15 127)); rfl; kernel_rfl; kernel_rfl; (first | (apply Still.load; rfl; rfl; (exact Rd.any); exact l0) | (apply Still.load; rfl; rfl; (exact Rd.any); exact l1) | (apply Still.load; rfl; rfl; (exact Rd.any); exact l2) | (apply Still.load; rfl; rfl; (exact Rd.any); (first | rfl | exact flat_get0 (by assumption) | exact flat_get1 (by assumption) | exact flat_get2 (by assumption) | exact flat_get3 (by assumption) | exact flat_get4 (by assumption))) | (apply Still.loadAgg; rfl; rfl; (exact eqAuto); (exact Rd.any); (first | exact flat_take (by assumption) | rfl); rfl)); (first | exact hS | exact hS.tail | exact hS.sublist (by repeat (first | exact List.Sublist.refl _ | refine .cons_cons _ ?_ | refine .cons _ ?_))); rfl)
    all_goals (apply RH.take (i := 7) (listed := (bm 15 127)) (listed' := (bm 15 255)); rfl; kernel_rfl; kernel_rfl; (apply Still.move; rfl); (first | exact hS | exact hS.tail | exact hS.sublist (by repeat (first | exact List.Sublist.refl _ | refine .cons_cons _ ?_ | refine .cons _ ?_))); rfl)
    all_goals (apply RH.take (i := 8) (listed := (bm 15 255)) (listed' := (bm 15 511)); rfl; kernel_rfl; kernel_rfl; (first | (exact Still.any) | (apply Still.indexAddrA; rfl; rfl; rfl; (exact eqAuto); omega; omega; (first | (simp only [Int.toNat_natCast, Nat.mul_one, Nat.zero_add, Int.reduceToNat, Nat.reduceMul, Nat.reduceAdd, Nat.zero_mul]; exact rfl) | rfl))); (first | exact hS | exact hS.tail | exact hS.sublist (by repeat (first | exact List.Sublist.refl _ | refine .cons_cons _ ?_ | refine .cons _ ?_))); rfl)
    all_goals (apply RH.take (i := 9) (listed := (bm 15 511)) (listed' := (bm 15 1023)); rfl; kernel_rfl; kernel_rfl; (first | (apply Still.load; rfl; rfl; (exact Rd.any); exact l0) | (apply Still.load; rfl; rfl; (exact Rd.any); exact l1) | (apply Still.load; rfl; rfl; (exact Rd.any); exact l2) | (apply Still.load; rfl; rfl; (exact Rd.any); (first | rfl | exact flat_get0 (by assumption) | exact flat_get1 (by assumption) | exact flat_get2 (by assumption) | exact flat_get3 (by assumption) | exact flat_get4 (by assumption))) | (apply Still.loadAgg; rfl; rfl; (exact eqAuto); (exact Rd.any); (first | exact flat_take (by assumption) | rfl); rfl)); (first | exact hS | exact hS.tail | exact hS.sublist (by repeat (first | exact List.Sublist.refl _ | refine .cons_cons _ ?_ | refine .cons _ ?_))); rfl)
    all_goals
      apply RH.all1 (i := 10) (listed := (bm 15 1023))
      · kernel_rfl
      · apply RI.op (i := 10) (listed := (bm 15 1023)) (listed' := (bm 15 2047)); rfl; kernel_rfl
        all_goals try first
        | (apply OP.callF; rfl; rfl; rfl; show Cl _ 22 _ _ _; exact get_calls (hS.take (by focus ((repeat (first | apply Has.head | apply Take.head | apply Put.head | apply Has.tail | apply Take.tail | apply Put.tail)); done))); clear hS; rintro v w1 ⟨rfl, hS⟩; refine ⟨(by first | exact hS | exact hS.tail | exact hS.sublist (by repeat (first | exact List.Sublist.refl _ | refine .cons_cons _ ?_ | refine .cons _ ?_))), ?_⟩)
        | (apply OP.callF; rfl; rfl; rfl; show Cl _ 52 _ _ _; exact share_calls (hS.take (by focus ((repeat (first | apply Has.head | apply Take.head | apply Put.head | apply Has.tail | apply Take.tail | apply Put.tail)); done))); clear hS; rintro v w1 ⟨rfl, hS⟩; refine ⟨(by first | exact hS | exact hS.tail | exact hS.sublist (by repeat (first | exact List.Sublist.refl _ | refine .cons_cons _ ?_ | refine .cons _ ?_))), ?_⟩)
        | (apply OP.callF; rfl; rfl; rfl; show Cl _ 20 _ _ _; exact mk_calls (n := ⟨op, n, y0, y1, y2⟩) (hS.take (by focus ((repeat (first | apply Has.head | apply Take.head | apply Put.head | apply Has.tail | apply Take.tail | apply Put.tail)); done))); clear hS; rintro v w1 ⟨rfl, hS⟩; refine ⟨(by first | exact hS | exact hS.tail | exact hS.sublist (by repeat (first | exact List.Sublist.refl _ | refine .cons_cons _ ?_ | refine .cons _ ?_))), ?_⟩)
        | (refine OP.still (by exact Still.any) hS rfl ⟨(by first | exact hS | exact hS.tail | exact hS.sublist (by repeat (first | exact List.Sublist.refl _ | refine .cons_cons _ ?_ | refine .cons _ ?_))), ?_⟩)
        all_goals (apply RH.take (i := 11) (listed := (bm 15 2047)) (listed' := (bm 15 4095)); rfl; kernel_rfl; kernel_rfl; (apply Still.extract; rfl; rfl); (first | exact hS | exact hS.tail | exact hS.sublist (by repeat (first | exact List.Sublist.refl _ | refine .cons_cons _ ?_ | refine .cons _ ?_))); rfl)
        all_goals (apply RH.take (i := 12) (listed := (bm 15 4095)) (listed' := (bm 15 8191)); rfl; kernel_rfl; kernel_rfl; (apply Still.extract; rfl; rfl); (first | exact hS | exact hS.tail | exact hS.sublist (by repeat (first | exact List.Sublist.refl _ | refine .cons_cons _ ?_ | refine .cons _ ?_))); rfl)
        all_goals (apply RH.take (i := 13) (listed := (bm 15 8191)) (listed' := (bm 15 16383)); rfl; kernel_rfl; kernel_rfl; (apply Still.assign; rfl); (first | exact hS | exact hS.tail | exact hS.sublist (by repeat (first | exact List.Sublist.refl _ | refine .cons_cons _ ?_ | refine .cons _ ?_))); rfl)
        all_goals (apply RH.take (i := 14) (listed := (bm 15 16383)) (listed' := (bm 15 32767)); rfl; kernel_rfl; kernel_rfl; (apply Still.assign; rfl); (first | exact hS | exact hS.tail | exact hS.sublist (by repeat (first | exact List.Sublist.refl _ | refine .cons_cons _ ?_ | refine .cons _ ?_))); rfl)
        all_goals (apply RH.done (listed := (bm 15 32767)); kernel_rfl)
        all_goals (exact ⟨(), (by focus ((repeat (first | exact .nil | refine .cons rfl ?_)); done)), hS.picks (by focus ((repeat (first | apply Picks.all | apply Picks.nil | (refine Picks.cons (by repeat (first | apply Take.head | apply Take.tail)) ?_) | apply Picks.drop)); done))⟩)
  · clear hS
    rintro ⟨⟩ w1 hS
    repeat' first
      | refine Run.seq ?_
      | refine Run.region ?_
      | (refine RO.split ?_ ?_ <;> intro hc <;> try (first | (exfalso; omega) | exact absurd rfl hc | exact Bool.noConfusion hc))
      | refine RO.nil ?_
      | refine RO.still (by exact Still.any) hS rfl ?_
      | (apply RO.op; apply OP.box hS; rfl; rfl; rfl; clear hS; intro b w1 hS)
      | (apply RO.op; apply OP.alloc hS; rfl; rfl; rfl; clear hS; intro b w1 hS)
      | (apply RO.op; apply OP.store hS; rfl; rfl; rfl; rfl; rfl; (focus ((repeat (first | apply Has.head | apply Take.head | apply Put.head | apply Has.tail | apply Take.tail | apply Put.tail)); done)); rfl; rfl; clear hS; intro w1 hS)
      | (apply RO.op; apply OP.buildSlice hS; rfl; rfl; (exact eqAuto); rfl; rfl; rfl; rfl; rfl; clear hS; intro b w1 hS)
      | (apply RO.op; apply OP.makeMap hS; rfl; clear hS; intro b w1 hS)
      | refine RO.yes rfl rfl ?_
      | refine RO.no rfl rfl rfl rfl ?_
      | refine RO.noUndef rfl rfl rfl ?_
      | refine RO.noNone rfl rfl rfl ?_
      | refine Run.cond_true rfl ?_
      | refine Run.cond_false rfl ?_
      | refine Run.skip ?_
      | refine Run.block ?_
      | refine Run.inBlock ?_
      | refine Run.exit rfl ?_
    refine Run.ret Try.func38 rfl (.tmp rfl (.tmp rfl .nil)) ?_
    exact ⟨rfl, hS.picks (by focus ((repeat (first | apply Picks.all | apply Picks.nil | (refine Picks.cons (by repeat (first | apply Take.head | apply Take.tail)) ?_) | apply Picks.drop)); done))⟩

set_option maxHeartbeats 8000000 in
theorem built_mk {s : Stp} {xs : List Int} {y0 y1 y2 : Int} (hop : s.op ≠ 3) (hxs : xs.length ≤ 3) (hy0 : (xs ++ [0, 0, 0])[0]? = some y0) (hy1 : (xs ++ [0, 0, 0])[1]? = some y1) (hy2 : (xs ++ [0, 0, 0])[2]? = some y2)
    (hS : St we ρ (Arena p lim L :: Row cb [.pointer (some ⟨p, 0, none⟩), .pointer (some ⟨kb, 0, none⟩), mv] 65 :: Vec 3 1 lv xs.length (xs.flatMap intL) :: F) w) :
    Cl Try.prog 38 [.pointer (some ⟨cb, 0, none⟩), .agg (stpL s).toArray, lv] w
      fun v w' => v = .tuple #[.int .i64 (fixE (mk lim L ⟨s.op, s.n, y0, y1, y2⟩)).2.1, .int .i64 (fixE (mk lim L ⟨s.op, s.n, y0, y1, y2⟩)).2.2] ∧ St we ρ (Arena p lim (fixE (mk lim L ⟨s.op, s.n, y0, y1, y2⟩)).1 :: Row cb [.pointer (some ⟨p, 0, none⟩), .pointer (some ⟨kb, 0, none⟩), mv] 65 :: F) w' := by
  obtain ⟨op, n, z1, z2, z3⟩ := s
  simp only at hop ⊢
  show Cl _ _ [_, .agg [Value.int .i64 op, Value.int .u64 n, Value.int .i64 z1, Value.int .i64 z2, Value.int .i64 z3].toArray, _] _ _
  refine Run.calls3 (n := 55) Try.func38 rfl rfl rfl ?_
  repeat' first
    | (apply RO.op; apply OP.append (size := 1) (bytes := 8) (k := 3) (news := [.int .i64 0, .int .i64 0, .int .i64 0]) hS; rfl; rfl; rfl; rfl; rfl; rfl; rfl; rfl; exact (by omega); (focus ((repeat (first | apply Has.head | apply Take.head | apply Put.head | apply Has.tail | apply Take.tail | apply Put.tail)); done)); (exact Rd.any); rfl; rfl; exact (by intro v hv; simp at hv; subst hv; rfl); (exact (by unfold maxLen; omega)); (exact (by omega)); rfl
       clear hS; intro v2 w1 hS)
    | refine Run.seq ?_
    | refine Run.region ?_
    | (refine RO.split ?_ ?_ <;> intro hc <;> try (first | (exfalso; omega) | exact absurd rfl hc | exact Bool.noConfusion hc))
    | refine RO.nil ?_
    | refine RO.still (by exact Still.any) hS rfl ?_
    | (apply RO.op; apply OP.box hS; rfl; rfl; rfl; clear hS; intro b w1 hS)
    | (apply RO.op; apply OP.alloc hS; rfl; rfl; rfl; clear hS; intro b w1 hS)
    | (apply RO.op; apply OP.store hS; rfl; rfl; rfl; rfl; rfl; (focus ((repeat (first | apply Has.head | apply Take.head | apply Put.head | apply Has.tail | apply Take.tail | apply Put.tail)); done)); rfl; rfl; clear hS; intro w1 hS)
    | (apply RO.op; apply OP.buildSlice hS; rfl; rfl; (exact eqAuto); rfl; rfl; rfl; rfl; rfl; clear hS; intro b w1 hS)
    | (apply RO.op; apply OP.makeMap hS; rfl; clear hS; intro b w1 hS)
    | refine RO.yes rfl rfl ?_
    | refine RO.no rfl rfl rfl rfl ?_
    | refine RO.noUndef rfl rfl rfl ?_
    | refine RO.noNone rfl rfl rfl ?_
    | refine Run.cond_true rfl ?_
    | refine Run.cond_false rfl ?_
    | refine Run.skip ?_
    | refine Run.block ?_
    | refine Run.inBlock ?_
    | refine Run.exit rfl ?_
  rw [show xs.length + 3 = (xs ++ [0, 0, 0]).length from by simp, show List.flatMap intL xs ++ [Value.int .i64 0, Value.int .i64 0, Value.int .i64 0] = (xs ++ [0, 0, 0]).flatMap intL from by rw [List.flatMap_append]; rfl] at hS
  obtain ⟨_, ⟨_, h0, _⟩ | ⟨g0, cap0, sp, rfl, c1, c2, c3, hT⟩⟩ := vec_open hS
  · simp at h0
  clear hS
  have hS := hT
  clear hT
  have hlen3 : 3 ≤ (xs ++ [0, 0, 0]).length := by simp
  have hcell : ∀ (j : Nat) (y : Int), (xs ++ [0, 0, 0])[j]? = some y → ((xs ++ [0, 0, 0]).flatMap intL ++ sp)[j]? = some (.int .i64 y) := by
    intro j y h
    have hj := (List.getElem?_eq_some_iff.1 h).1
    rw [ints_flat, List.getElem?_append_left (by rw [List.length_map]; exact hj), List.getElem?_map, h]
    rfl
  have l0 := hcell 0 y0 hy0
  have l1 := hcell 1 y1 hy1
  have l2 := hcell 2 y2 hy2
  generalize (xs ++ [0, 0, 0]).flatMap intL ++ sp = cells at hS l0 l1 l2
  generalize (xs ++ [0, 0, 0]).length = nl at hlen3 hS c1 c3
  replace hS := hS.take (A := Arena p lim L) (by focus ((repeat (first | apply Has.head | apply Take.head | apply Put.head | apply Has.tail | apply Take.tail | apply Put.tail)); done))
  refine (Run.regionH_cut (fun _ : Unit => Arena p lim (mk lim L ⟨op, n, y0, y1, y2⟩).1 :: Row cb [.pointer (some ⟨p, 0, none⟩), .pointer (some ⟨kb, 0, none⟩), mv] 65 :: F)
    (fun _ => [(8, .int .i64 (mk lim L ⟨op, n, y0, y1, y2⟩).2.1), (9, .int .i64 (mk lim L ⟨op, n, y0, y1, y2⟩).2.2)])
    hS (.cons _ (List.Sublist.refl _)) (by rfl) (by rfl) (by rfl) ?_ ?_)
  · clear hS
    intro w1 hS
    refine RH.relist (listed' := bm 24 0) (by kernel_rfl) ?_
    all_goals (apply RH.take (i := 0) (listed := (bm 24 0)) (listed' := (bm 24 1)); rfl; kernel_rfl; kernel_rfl; (apply Still.move; rfl); (first | exact hS | exact hS.tail | exact hS.sublist (by repeat (first | exact List.Sublist.refl _ | refine .cons_cons _ ?_ | refine .cons _ ?_))); rfl)
    all_goals (apply RH.take (i := 1) (listed := (bm 24 1)) (listed' := (bm 24 3)); rfl; kernel_rfl; kernel_rfl; (first | (apply Still.nilCheck; rfl) | (apply Still.nilCheckF; rfl)); (first | exact hS | exact hS.tail | exact hS.sublist (by repeat (first | exact List.Sublist.refl _ | refine .cons_cons _ ?_ | refine .cons _ ?_))); rfl)
    all_goals (apply RH.take (i := 2) (listed := (bm 24 3)) (listed' := (bm 24 7)); rfl; kernel_rfl; kernel_rfl; (apply Still.fieldAddr; rfl; (exact eqAuto)); (first | exact hS | exact hS.tail | exact hS.sublist (by repeat (first | exact List.Sublist.refl _ | refine .cons_cons _ ?_ | refine .cons _ ?_))); rfl)
    all_goals (apply RH.take (i := 3) (listed := (bm 24 7)) (listed' := (bm 24 15)); rfl; kernel_rfl; kernel_rfl; (first | (apply Still.load; rfl; rfl; (exact Rd.any); exact l0) | (apply Still.load; rfl; rfl; (exact Rd.any); exact l1) | (apply Still.load; rfl; rfl; (exact Rd.any); exact l2) | (apply Still.load; rfl; rfl; (exact Rd.any); (first | rfl | exact flat_get0 (by assumption) | exact flat_get1 (by assumption) | exact flat_get2 (by assumption) | exact flat_get3 (by assumption) | exact flat_get4 (by assumption))) | (apply Still.loadAgg; rfl; rfl; (exact eqAuto); (exact Rd.any); (first | exact flat_take (by assumption) | rfl); rfl)); (first | exact hS | exact hS.tail | exact hS.sublist (by repeat (first | exact List.Sublist.refl _ | refine .cons_cons _ ?_ | refine .cons _ ?_))); rfl)
    all_goals (apply RH.take (i := 4) (listed := (bm 24 15)) (listed' := (bm 24 31)); rfl; kernel_rfl; kernel_rfl; (apply Still.fieldAddr; rfl; (exact eqAuto)); (first | exact hS | exact hS.tail | exact hS.sublist (by repeat (first | exact List.Sublist.refl _ | refine .cons_cons _ ?_ | refine .cons _ ?_))); rfl)
    all_goals (apply RH.take (i := 5) (listed := (bm 24 31)) (listed' := (bm 24 63)); rfl; kernel_rfl; kernel_rfl; (first | (apply Still.load; rfl; rfl; (exact Rd.any); exact l0) | (apply Still.load; rfl; rfl; (exact Rd.any); exact l1) | (apply Still.load; rfl; rfl; (exact Rd.any); exact l2) | (apply Still.load; rfl; rfl; (exact Rd.any); (first | rfl | exact flat_get0 (by assumption) | exact flat_get1 (by assumption) | exact flat_get2 (by assumption) | exact flat_get3 (by assumption) | exact flat_get4 (by assumption))) | (apply Still.loadAgg; rfl; rfl; (exact eqAuto); (exact Rd.any); (first | exact flat_take (by assumption) | rfl); rfl)); (first | exact hS | exact hS.tail | exact hS.sublist (by repeat (first | exact List.Sublist.refl _ | refine .cons_cons _ ?_ | refine .cons _ ?_))); rfl)
    all_goals (apply RH.take (i := 6) (listed := (bm 24 63)) (listed' := (bm 24 127)); rfl; kernel_rfl; kernel_rfl; (apply Still.fieldAddr; rfl; (exact eqAuto)); (first | exact hS | exact hS.tail | exact hS.sublist (by repeat (first | exact List.Sublist.refl _ | refine .cons_cons _ ?_ | refine .cons _ ?_))); rfl)
    all_goals (apply RH.take (i := 7) (listed := (bm 24 127)) (listed' := (bm 24 255)); rfl; kernel_rfl; kernel_rfl; (first | (apply Still.load; rfl; rfl; (exact Rd.any); exact l0) | (apply Still.load; rfl; rfl; (exact Rd.any); exact l1) | (apply Still.load; rfl; rfl; (exact Rd.any); exact l2) | (apply Still.load; rfl; rfl; (exact Rd.any); (first | rfl | exact flat_get0 (by assumption) | exact flat_get1 (by assumption) | exact flat_get2 (by assumption) | exact flat_get3 (by assumption) | exact flat_get4 (by assumption))) | (apply Still.loadAgg; rfl; rfl; (exact eqAuto); (exact Rd.any); (first | exact flat_take (by assumption) | rfl); rfl)); (first | exact hS | exact hS.tail | exact hS.sublist (by repeat (first | exact List.Sublist.refl _ | refine .cons_cons _ ?_ | refine .cons _ ?_))); rfl)
    all_goals (apply RH.take (i := 8) (listed := (bm 24 255)) (listed' := (bm 24 511)); rfl; kernel_rfl; kernel_rfl; (apply Still.move; rfl); (first | exact hS | exact hS.tail | exact hS.sublist (by repeat (first | exact List.Sublist.refl _ | refine .cons_cons _ ?_ | refine .cons _ ?_))); rfl)
    all_goals (apply RH.take (i := 9) (listed := (bm 24 511)) (listed' := (bm 24 1023)); rfl; kernel_rfl; kernel_rfl; (first | (exact Still.any) | (apply Still.indexAddrA; rfl; rfl; rfl; (exact eqAuto); omega; omega; (first | (simp only [Int.toNat_natCast, Nat.mul_one, Nat.zero_add, Int.reduceToNat, Nat.reduceMul, Nat.reduceAdd, Nat.zero_mul]; exact rfl) | rfl))); (first | exact hS | exact hS.tail | exact hS.sublist (by repeat (first | exact List.Sublist.refl _ | refine .cons_cons _ ?_ | refine .cons _ ?_))); rfl)
    all_goals (apply RH.take (i := 10) (listed := (bm 24 1023)) (listed' := (bm 24 2047)); rfl; kernel_rfl; kernel_rfl; (first | (apply Still.load; rfl; rfl; (exact Rd.any); exact l0) | (apply Still.load; rfl; rfl; (exact Rd.any); exact l1) | (apply Still.load; rfl; rfl; (exact Rd.any); exact l2) | (apply Still.load; rfl; rfl; (exact Rd.any); (first | rfl | exact flat_get0 (by assumption) | exact flat_get1 (by assumption) | exact flat_get2 (by assumption) | exact flat_get3 (by assumption) | exact flat_get4 (by assumption))) | (apply Still.loadAgg; rfl; rfl; (exact eqAuto); (exact Rd.any); (first | exact flat_take (by assumption) | rfl); rfl)); (first | exact hS | exact hS.tail | exact hS.sublist (by repeat (first | exact List.Sublist.refl _ | refine .cons_cons _ ?_ | refine .cons _ ?_))); rfl)
    all_goals (apply RH.take (i := 11) (listed := (bm 24 2047)) (listed' := (bm 24 4095)); rfl; kernel_rfl; kernel_rfl; (apply Still.move; rfl); (first | exact hS | exact hS.tail | exact hS.sublist (by repeat (first | exact List.Sublist.refl _ | refine .cons_cons _ ?_ | refine .cons _ ?_))); rfl)
    all_goals (apply RH.take (i := 12) (listed := (bm 24 4095)) (listed' := (bm 24 8191)); rfl; kernel_rfl; kernel_rfl; (first | (exact Still.any) | (apply Still.indexAddrA; rfl; rfl; rfl; (exact eqAuto); omega; omega; (first | (simp only [Int.toNat_natCast, Nat.mul_one, Nat.zero_add, Int.reduceToNat, Nat.reduceMul, Nat.reduceAdd, Nat.zero_mul]; exact rfl) | rfl))); (first | exact hS | exact hS.tail | exact hS.sublist (by repeat (first | exact List.Sublist.refl _ | refine .cons_cons _ ?_ | refine .cons _ ?_))); rfl)
    all_goals (apply RH.take (i := 13) (listed := (bm 24 8191)) (listed' := (bm 24 16383)); rfl; kernel_rfl; kernel_rfl; (first | (apply Still.load; rfl; rfl; (exact Rd.any); exact l0) | (apply Still.load; rfl; rfl; (exact Rd.any); exact l1) | (apply Still.load; rfl; rfl; (exact Rd.any); exact l2) | (apply Still.load; rfl; rfl; (exact Rd.any); (first | rfl | exact flat_get0 (by assumption) | exact flat_get1 (by assumption) | exact flat_get2 (by assumption) | exact flat_get3 (by assumption) | exact flat_get4 (by assumption))) | (apply Still.loadAgg; rfl; rfl; (exact eqAuto); (exact Rd.any); (first | exact flat_take (by assumption) | rfl); rfl)); (first | exact hS | exact hS.tail | exact hS.sublist (by repeat (first | exact List.Sublist.refl _ | refine .cons_cons _ ?_ | refine .cons _ ?_))); rfl)
    all_goals (apply RH.take (i := 14) (listed := (bm 24 16383)) (listed' := (bm 24 32767)); rfl; kernel_rfl; kernel_rfl; (apply Still.move; rfl); (first | exact hS | exact hS.tail | exact hS.sublist (by repeat (first | exact List.Sublist.refl _ | refine .cons_cons _ ?_ | refine .cons _ ?_))); rfl)
    all_goals (apply RH.take (i := 15) (listed := (bm 24 32767)) (listed' := (bm 24 65535)); rfl; kernel_rfl; kernel_rfl; (first | (exact Still.any) | (apply Still.indexAddrA; rfl; rfl; rfl; (exact eqAuto); omega; omega; (first | (simp only [Int.toNat_natCast, Nat.mul_one, Nat.zero_add, Int.reduceToNat, Nat.reduceMul, Nat.reduceAdd, Nat.zero_mul]; exact rfl) | rfl))); (first | exact hS | exact hS.tail | exact hS.sublist (by repeat (first | exact List.Sublist.refl _ | refine .cons_cons _ ?_ | refine .cons _ ?_))); rfl)
    all_goals (apply RH.take (i := 16) (listed := (bm 24 65535)) (listed' := (bm 24 131071)); rfl; kernel_rfl; kernel_rfl; (first | (apply Still.load; rfl; rfl; (exact Rd.any); exact l0) | (apply Still.load; rfl; rfl; (exact Rd.any); exact l1) | (apply Still.load; rfl; rfl; (exact Rd.any); exact l2) | (apply Still.load; rfl; rfl; (exact Rd.any); (first | rfl | exact flat_get0 (by assumption) | exact flat_get1 (by assumption) | exact flat_get2 (by assumption) | exact flat_get3 (by assumption) | exact flat_get4 (by assumption))) | (apply Still.loadAgg; rfl; rfl; (exact eqAuto); (exact Rd.any); (first | exact flat_take (by assumption) | rfl); rfl)); (first | exact hS | exact hS.tail | exact hS.sublist (by repeat (first | exact List.Sublist.refl _ | refine .cons_cons _ ?_ | refine .cons _ ?_))); rfl)
    all_goals (apply RH.take (i := 17) (listed := (bm 24 131071)) (listed' := (bm 24 262143)); rfl; kernel_rfl; kernel_rfl; (first | (apply Still.load; rfl; rfl; (exact Rd.any); exact l0) | (apply Still.load; rfl; rfl; (exact Rd.any); exact l1) | (apply Still.load; rfl; rfl; (exact Rd.any); exact l2) | (exact Still.any)); (first | exact hS | exact hS.tail | exact hS.sublist (by repeat (first | exact List.Sublist.refl _ | refine .cons_cons _ ?_ | refine .cons _ ?_))); rfl)
    all_goals
      apply RH.all1 (i := 18) (listed := (bm 24 262143))
      · kernel_rfl
      · apply RI.op (i := 18) (listed := (bm 24 262143)) (listed' := (bm 24 524287)); rfl; kernel_rfl
        all_goals try first
        | (apply OP.callF; rfl; rfl; rfl; show Cl _ 22 _ _ _; exact get_calls (hS.take (by focus ((repeat (first | apply Has.head | apply Take.head | apply Put.head | apply Has.tail | apply Take.tail | apply Put.tail)); done))); clear hS; rintro v w1 ⟨rfl, hS⟩; refine ⟨(by first | exact hS | exact hS.tail | exact hS.sublist (by repeat (first | exact List.Sublist.refl _ | refine .cons_cons _ ?_ | refine .cons _ ?_))), ?_⟩)
        | (apply OP.callF; rfl; rfl; rfl; show Cl _ 52 _ _ _; exact share_calls (hS.take (by focus ((repeat (first | apply Has.head | apply Take.head | apply Put.head | apply Has.tail | apply Take.tail | apply Put.tail)); done))); clear hS; rintro v w1 ⟨rfl, hS⟩; refine ⟨(by first | exact hS | exact hS.tail | exact hS.sublist (by repeat (first | exact List.Sublist.refl _ | refine .cons_cons _ ?_ | refine .cons _ ?_))), ?_⟩)
        | (apply OP.callF; rfl; rfl; rfl; show Cl _ 20 _ _ _; exact mk_calls (n := ⟨op, n, y0, y1, y2⟩) (hS.take (by focus ((repeat (first | apply Has.head | apply Take.head | apply Put.head | apply Has.tail | apply Take.tail | apply Put.tail)); done))); clear hS; rintro v w1 ⟨rfl, hS⟩; refine ⟨(by first | exact hS | exact hS.tail | exact hS.sublist (by repeat (first | exact List.Sublist.refl _ | refine .cons_cons _ ?_ | refine .cons _ ?_))), ?_⟩)
        | (refine OP.still (by exact Still.any) hS rfl ⟨(by first | exact hS | exact hS.tail | exact hS.sublist (by repeat (first | exact List.Sublist.refl _ | refine .cons_cons _ ?_ | refine .cons _ ?_))), ?_⟩)
        all_goals (apply RH.take (i := 19) (listed := (bm 24 524287)) (listed' := (bm 24 1048575)); rfl; kernel_rfl; kernel_rfl; (apply Still.move; rfl); (first | exact hS | exact hS.tail | exact hS.sublist (by repeat (first | exact List.Sublist.refl _ | refine .cons_cons _ ?_ | refine .cons _ ?_))); rfl)
        all_goals (apply RH.take (i := 20) (listed := (bm 24 1048575)) (listed' := (bm 24 2097151)); rfl; kernel_rfl; kernel_rfl; (apply Still.extract; rfl; rfl); (first | exact hS | exact hS.tail | exact hS.sublist (by repeat (first | exact List.Sublist.refl _ | refine .cons_cons _ ?_ | refine .cons _ ?_))); rfl)
        all_goals (apply RH.take (i := 21) (listed := (bm 24 2097151)) (listed' := (bm 24 4194303)); rfl; kernel_rfl; kernel_rfl; (apply Still.extract; rfl; rfl); (first | exact hS | exact hS.tail | exact hS.sublist (by repeat (first | exact List.Sublist.refl _ | refine .cons_cons _ ?_ | refine .cons _ ?_))); rfl)
        all_goals (apply RH.take (i := 22) (listed := (bm 24 4194303)) (listed' := (bm 24 8388607)); rfl; kernel_rfl; kernel_rfl; (apply Still.assign; rfl); (first | exact hS | exact hS.tail | exact hS.sublist (by repeat (first | exact List.Sublist.refl _ | refine .cons_cons _ ?_ | refine .cons _ ?_))); rfl)
        all_goals (apply RH.take (i := 23) (listed := (bm 24 8388607)) (listed' := (bm 24 16777215)); rfl; kernel_rfl; kernel_rfl; (apply Still.assign; rfl); (first | exact hS | exact hS.tail | exact hS.sublist (by repeat (first | exact List.Sublist.refl _ | refine .cons_cons _ ?_ | refine .cons _ ?_))); rfl)
        all_goals (apply RH.done (listed := (bm 24 16777215)); kernel_rfl)
        all_goals (exact ⟨(), (by focus ((repeat (first | exact .nil | refine .cons rfl ?_)); done)), hS.picks (by focus ((repeat (first | apply Picks.all | apply Picks.nil | (refine Picks.cons (by repeat (first | apply Take.head | apply Take.tail)) ?_) | apply Picks.drop)); done))⟩)
  · clear hS
    rintro ⟨⟩ w1 hS
    unfold fixE
    generalize mk lim L ⟨op, n, y0, y1, y2⟩ = q at hS
    obtain ⟨L', x, e⟩ := q
    simp only at hS ⊢
    by_cases he : e = 1
    · rw [if_pos he]
      repeat' first
        | refine Run.seq ?_
        | refine Run.region ?_
        | (refine RO.split ?_ ?_ <;> intro hc <;> try (first | (exfalso; omega) | exact absurd rfl hc | exact Bool.noConfusion hc))
        | refine RO.nil ?_
        | refine RO.still (by exact Still.any) hS rfl ?_
        | (apply RO.op; apply OP.box hS; rfl; rfl; rfl; clear hS; intro b w1 hS)
        | (apply RO.op; apply OP.alloc hS; rfl; rfl; rfl; clear hS; intro b w1 hS)
        | (apply RO.op; apply OP.store hS; rfl; rfl; rfl; rfl; rfl; (focus ((repeat (first | apply Has.head | apply Take.head | apply Put.head | apply Has.tail | apply Take.tail | apply Put.tail)); done)); rfl; rfl; clear hS; intro w1 hS)
        | (apply RO.op; apply OP.buildSlice hS; rfl; rfl; (exact eqAuto); rfl; rfl; rfl; rfl; rfl; clear hS; intro b w1 hS)
        | (apply RO.op; apply OP.makeMap hS; rfl; clear hS; intro b w1 hS)
        | refine RO.yes rfl rfl ?_
        | refine RO.no rfl rfl rfl rfl ?_
        | refine RO.noUndef rfl rfl rfl ?_
        | refine RO.noNone rfl rfl rfl ?_
        | refine Run.cond_true rfl ?_
        | refine Run.cond_false rfl ?_
        | refine Run.skip ?_
        | refine Run.block ?_
        | refine Run.inBlock ?_
        | refine Run.exit rfl ?_
      refine Run.ret Try.func38 rfl (.tmp rfl (.tmp rfl .nil)) ?_
      exact ⟨rfl, hS.picks (by focus ((repeat (first | apply Picks.all | apply Picks.nil | (refine Picks.cons (by repeat (first | apply Take.head | apply Take.tail)) ?_) | apply Picks.drop)); done))⟩
    · rw [if_neg he]
      repeat' first
        | refine Run.seq ?_
        | refine Run.region ?_
        | (refine RO.split ?_ ?_ <;> intro hc <;> try (first | (exfalso; omega) | exact absurd rfl hc | exact Bool.noConfusion hc))
        | refine RO.nil ?_
        | refine RO.still (by exact Still.any) hS rfl ?_
        | (apply RO.op; apply OP.box hS; rfl; rfl; rfl; clear hS; intro b w1 hS)
        | (apply RO.op; apply OP.alloc hS; rfl; rfl; rfl; clear hS; intro b w1 hS)
        | (apply RO.op; apply OP.store hS; rfl; rfl; rfl; rfl; rfl; (focus ((repeat (first | apply Has.head | apply Take.head | apply Put.head | apply Has.tail | apply Take.tail | apply Put.tail)); done)); rfl; rfl; clear hS; intro w1 hS)
        | (apply RO.op; apply OP.buildSlice hS; rfl; rfl; (exact eqAuto); rfl; rfl; rfl; rfl; rfl; clear hS; intro b w1 hS)
        | (apply RO.op; apply OP.makeMap hS; rfl; clear hS; intro b w1 hS)
        | refine RO.yes rfl rfl ?_
        | refine RO.no rfl rfl rfl rfl ?_
        | refine RO.noUndef rfl rfl rfl ?_
        | refine RO.noNone rfl rfl rfl ?_
        | refine Run.cond_true rfl ?_
        | refine Run.cond_false rfl ?_
        | refine Run.skip ?_
        | refine Run.block ?_
        | refine Run.inBlock ?_
        | refine Run.exit rfl ?_
      refine Run.ret Try.func38 rfl (.tmp rfl (.tmp rfl .nil)) ?_
      exact ⟨rfl, hS.picks (by focus ((repeat (first | apply Picks.all | apply Picks.nil | (refine Picks.cons (by repeat (first | apply Take.head | apply Take.tail)) ?_) | apply Picks.drop)); done))⟩
end
end Go.Proofs.Ythejfodjielahaa
