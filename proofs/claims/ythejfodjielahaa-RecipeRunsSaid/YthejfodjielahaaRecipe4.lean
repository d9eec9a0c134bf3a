/-
  The layer of recipes in the program: a step makes what the document says.
-/
import Derived.Test.YthejfodjielahaaRecipe3
namespace Go.Proofs.Ythejfodjielahaa
set_option maxRecDepth 8000
set_option linter.unusedSimpArgs false
set_option linter.unusedVariables false
open Go Go.RowKit

theorem pad_get {s : Stp} {made : List Int} (j : Nat) (hj : j < 3) : ((argsS s).map (mde made) ++ [0, 0, 0])[j]? = some (padS s made j) := by
  unfold padS
  have : j < ((argsS s).map (mde made) ++ [0, 0, 0]).length := by simp; omega
  rw [List.getElem?_eq_getElem this, List.getD_eq_getElem?_getD, List.getElem?_eq_getElem this]
  rfl
theorem args_at (op n a b c : Int) : ∀ (i : Nat) (h : i < (argsS ⟨op, n, a, b, c⟩).length), [Value.int .i64 a, Value.int .i64 b, Value.int .i64 c][i]? = some (.int .i64 (argsS ⟨op, n, a, b, c⟩)[i]) := by
  intro i h
  have h3 : i < 3 := by rw [argsS_len] at h; have := uses_le op; simp only at h; omega
  have e : (argsS ⟨op, n, a, b, c⟩)[i] = [a, b, c][i]'h3 := by simp [argsS]
  rw [e]
  match i, h3 with
  | 0, _ => rfl
  | 1, _ => rfl
  | 2, _ => rfl

theorem tke4 {we w : World} {ρ : List (Nat × Obj)} {σ : List HP} {A1 A2 A3 A4 : HP} {F1 F2 F3 F4 : List HP} (h : St we ρ σ w) (t1 : Take A1 σ F1) (t2 : Take A2 F1 F2) (t3 : Take A3 F2 F3) (t4 : Take A4 F3 F4) :
    St we ρ (A4 :: A3 :: A2 :: A1 :: F4) w := (((h.take t1).take (.tail t2)).take (.tail (.tail t3))).take (.tail (.tail (.tail t4)))
theorem tke3 {we w : World} {ρ : List (Nat × Obj)} {σ : List HP} {A1 A2 A3 : HP} {F1 F2 F3 : List HP} (h : St we ρ σ w) (t1 : Take A1 σ F1) (t2 : Take A2 F1 F2) (t3 : Take A3 F2 F3) :
    St we ρ (A3 :: A2 :: A1 :: F3) w := ((h.take t1).take (.tail t2)).take (.tail (.tail t3))

section
variable {we w : World} {ρ : List (Nat × Obj)} {σ F : List HP} {kb p lim cb : Nat} {L : List Nd} {K : Int → Bool} {mv : Value} {heard made : List Int}

set_option maxHeartbeats 8000000 in
theorem step_no {s : Stp} (hn : 0 ≤ s.n ∧ s.n ≤ 18446744073709551615) (hml : made.length ≤ 200000) (hhl : heard.length ≤ 200000) (hbad : ¬ RightP s ∨ (RightP s ∧ (argsS s).all (ahd made) = false))
    (hS : St we ρ (Arena p lim L :: Row cb [.pointer (some ⟨p, 0, none⟩), .pointer (some ⟨kb, 0, none⟩), mv] 65 :: Vec 3 1 mv made.length (made.flatMap intL) :: KN kb p heard K :: F) w) :
    Cl Try.prog 24 [.pointer (some ⟨cb, 0, none⟩), .agg (stpL s).toArray] w fun v w' => v = .tuple #[.int .i64 0, .int .i64 12] ∧
      St we ρ (Arena p lim L :: Row cb [.pointer (some ⟨p, 0, none⟩), .pointer (some ⟨kb, 0, none⟩), mv] 65 :: Vec 3 1 mv made.length (made.flatMap intL) :: KN kb p heard K :: F) w' := by
  have hright : ∀ {σ : List HP} {w : World}, St we ρ σ w → _ := fun {σ w} hS => rright_calls (we := we) (ρ := ρ) (σ := σ) (w := w) hn hS
  obtain ⟨op, n, z1, z2, z3⟩ := s
  replace hright : ∀ {σ : List HP} {w : World}, St we ρ σ w → Cl Try.prog 34 [.agg [Value.int .i64 op, Value.int .u64 n, Value.int .i64 z1, Value.int .i64 z2, Value.int .i64 z3].toArray] w fun v w' => v = .bool (decide (RightP ⟨op, n, z1, z2, z3⟩)) ∧ St we ρ σ w' := hright
  show Cl _ _ [_, .agg [Value.int .i64 op, Value.int .u64 n, Value.int .i64 z1, Value.int .i64 z2, Value.int .i64 z3].toArray] _ _
  rcases hbad with hr | ⟨hr, hall⟩
  · simp only [decide_eq_false hr] at hright
    refine Run.calls2 (n := 97) Try.func24 rfl rfl rfl ?_
    repeat' first
      | (apply RO.op; apply OP.callF; rfl; rfl; rfl; show Cl _ 34 _ _ _; exact hright hS; clear hS; rintro v w1 ⟨rfl, hS⟩)
      | (apply OP.callF; rfl; rfl; rfl; show Cl _ 34 _ _ _; exact hright hS; clear hS; rintro v w1 ⟨rfl, hS⟩; refine ⟨(by first | exact hS | exact hS.tail | exact hS.sublist (by repeat (first | exact List.Sublist.refl _ | refine .cons_cons _ ?_ | refine .cons _ ?_))), ?_⟩)
      | refine Run.seq ?_
      | refine Run.region ?_
      | (refine RO.split ?_ ?_ <;> intro hc <;> try (first | (exfalso; omega) | exact absurd rfl hc | exact Bool.noConfusion hc))
      | refine RO.nil ?_
      | refine RO.still (by exact Still.any) hS rfl ?_
      | (apply RO.op; apply OP.box hS; rfl; rfl; rfl; clear hS; intro b w1 hS)
      | (apply RO.op; apply OP.alloc hS; rfl; rfl; rfl; clear hS; intro b w1 hS)
      | (apply RO.op; apply OP.store hS; rfl; rfl; rfl; rfl; rfl; (focus ((repeat (first | apply Has.head | apply Take.head | apply Put.head | apply Has.tail | apply Take.tail | apply Put.tail)); done)); rfl; rfl; clear hS; intro w1 hS)
      | (apply RO.op; apply OP.buildSlice hS; rfl; rfl; (exact eqAuto); rfl; rfl; rfl; rfl; rfl; clear hS; intro b w1 hS)
      | (apply RO.op; apply OP.makeMap hS; rfl; clear hS; intro b w1 hS)
      | refine RO.yes rfl rfl ?_
      | refine RO.no rfl rfl rfl rfl ?_
      | refine RO.noUndef rfl rfl rfl ?_
      | refine RO.noNone rfl rfl rfl ?_
      | refine Run.cond_true rfl ?_
      | refine Run.cond_false rfl ?_
      | refine Run.skip ?_
      | refine Run.block ?_
      | refine Run.inBlock ?_
      | refine Run.exit rfl ?_
    refine Run.ret Try.func24 rfl (.tmp rfl (.tmp rfl .nil)) ?_
    exact ⟨rfl, hS.picks (by focus ((repeat (first | apply Picks.all | apply Picks.nil | (refine Picks.cons (by repeat (first | apply Take.head | apply Take.tail)) ?_) | apply Picks.drop)); done))⟩
  · skip
    simp only [decide_eq_true hr] at hright
    have hop : 0 ≤ op ∧ op ≤ 13 := ⟨hr.1.1, hr.1.2.1⟩
    have hparts := partsV_at hop
    have hlen := argsS_len ⟨op, n, z1, z2, z3⟩
    have hul := uses_le op
    have hal : (argsS ⟨op, n, z1, z2, z3⟩).length ≤ 3 := by rw [hlen]; exact hul
    have hargs := args_at op n z1 z2 z3
    simp only at hlen
    refine Run.calls2 (n := 97) Try.func24 rfl rfl rfl ?_
    repeat' first
      | (apply RO.op; apply OP.callF; rfl; rfl; rfl; show Cl _ 34 _ _ _; exact hright hS; clear hS; rintro v w1 ⟨rfl, hS⟩)
      | (apply OP.callF; rfl; rfl; rfl; show Cl _ 34 _ _ _; exact hright hS; clear hS; rintro v w1 ⟨rfl, hS⟩; refine ⟨(by first | exact hS | exact hS.tail | exact hS.sublist (by repeat (first | exact List.Sublist.refl _ | refine .cons_cons _ ?_ | refine .cons _ ?_))), ?_⟩)
      | refine Run.seq ?_
      | refine Run.region ?_
      | (refine RO.split ?_ ?_ <;> intro hc <;> try (first | (exfalso; omega) | exact absurd rfl hc | exact Bool.noConfusion hc))
      | refine RO.nil ?_
      | refine RO.still (by exact Still.any) hS rfl ?_
      | (apply RO.op; apply OP.box hS; rfl; rfl; rfl; clear hS; intro b w1 hS)
      | (apply RO.op; apply OP.alloc hS; rfl; rfl; rfl; clear hS; intro b w1 hS)
      | (apply RO.op; apply OP.store hS; rfl; rfl; rfl; rfl; rfl; (focus ((repeat (first | apply Has.head | apply Take.head | apply Put.head | apply Has.tail | apply Take.tail | apply Put.tail)); done)); rfl; rfl; clear hS; intro w1 hS)
      | (apply RO.op; apply OP.buildSlice hS; rfl; rfl; (exact eqAuto); rfl; rfl; rfl; rfl; rfl; clear hS; intro b w1 hS)
      | (apply RO.op; apply OP.makeMap hS; rfl; clear hS; intro b w1 hS)
      | refine RO.yes rfl rfl ?_
      | refine RO.no rfl rfl rfl rfl ?_
      | refine RO.noUndef rfl rfl rfl ?_
      | refine RO.noNone rfl rfl rfl ?_
      | refine Run.cond_true rfl ?_
      | refine Run.cond_false rfl ?_
      | refine Run.skip ?_
      | refine Run.block ?_
      | refine Run.inBlock ?_
      | refine Run.exit rfl ?_
    replace hS : St we ρ (Row cb [.pointer (some ⟨p, 0, none⟩), .pointer (some ⟨kb, 0, none⟩), mv] 65 :: Vec 3 1 mv made.length (made.flatMap intL) :: Arena p lim L :: KN kb p heard K :: Row b [.int .i64 op, .int .u64 n, .int .i64 z1, .int .i64 z2, .int .i64 z3] 41 :: F) _ := hS.picks (by focus ((repeat (first | apply Picks.all | apply Picks.nil | (refine Picks.cons (by repeat (first | apply Take.head | apply Take.tail)) ?_) | apply Picks.drop)); done))
    refine (Run.regionH_cut (fun _ : Unit => Row cb [.pointer (some ⟨p, 0, none⟩), .pointer (some ⟨kb, 0, none⟩), mv] 65 :: Vec 3 1 mv made.length (made.flatMap intL) :: Arena p lim L :: KN kb p heard K :: Row b [.int .i64 op, .int .u64 n, .int .i64 z1, .int .i64 z2, .int .i64 z3] 41 :: F)
      (fun _ => [(0, .pointer (some ⟨cb, 0, none⟩)), (3, .pointer (some ⟨b, 0, none⟩)), (6, .slice none 0 0), (7, .bool false)])
      hS (.cons _ (.cons _ (List.Sublist.refl _))) (by rfl) (by rfl) (by rfl) ?_ ?_)
    · clear hS
      intro w1 hS
      refine RH.relist (listed' := bm 19 0) (by kernel_rfl) ?_
      all_goals (apply RH.take (i := 0) (listed := (bm 19 0)) (listed' := (bm 19 1)); rfl; kernel_rfl; kernel_rfl; (apply Still.move; rfl); (first | exact hS | exact hS.tail | exact hS.sublist (by repeat (first | exact List.Sublist.refl _ | refine .cons_cons _ ?_ | refine .cons _ ?_))); rfl)
      all_goals (apply RH.take (i := 1) (listed := (bm 19 1)) (listed' := (bm 19 3)); rfl; kernel_rfl; kernel_rfl; (apply Still.fieldAddr; rfl; (exact eqAuto)); (first | exact hS | exact hS.tail | exact hS.sublist (by repeat (first | exact List.Sublist.refl _ | refine .cons_cons _ ?_ | refine .cons _ ?_))); rfl)
      all_goals (apply RH.take (i := 2) (listed := (bm 19 3)) (listed' := (bm 19 7)); rfl; kernel_rfl; kernel_rfl; (first | (apply Still.index; rfl; rfl; rfl; rfl; (exact eqAuto); omega; omega; (first | (simp only [Int.toNat_natCast, Nat.mul_one, Nat.zero_add, Int.reduceToNat, Nat.reduceMul, Nat.reduceAdd, Nat.zero_mul]; exact rfl) | rfl); exact hparts) | (apply Still.sliceHi; rfl; rfl; rfl; (exact eqAuto); omega; omega; rfl) | (apply Still.load; rfl; rfl; (exact Rd.any); (first | rfl | exact flat_get0 (by assumption) | exact flat_get1 (by assumption) | exact flat_get2 (by assumption) | exact flat_get3 (by assumption) | exact flat_get4 (by assumption))) | (apply Still.loadAgg; rfl; rfl; (exact eqAuto); (exact Rd.any); (first | exact flat_take (by assumption) | rfl); rfl)); (first | exact hS | exact hS.tail | exact hS.sublist (by repeat (first | exact List.Sublist.refl _ | refine .cons_cons _ ?_ | refine .cons _ ?_))); rfl)
      all_goals (apply RH.take (i := 3) (listed := (bm 19 7)) (listed' := (bm 19 15)); rfl; kernel_rfl; kernel_rfl; (apply Still.fieldAddr; rfl; (exact eqAuto)); (first | exact hS | exact hS.tail | exact hS.sublist (by repeat (first | exact List.Sublist.refl _ | refine .cons_cons _ ?_ | refine .cons _ ?_))); rfl)
      all_goals (apply RH.take (i := 4) (listed := (bm 19 15)) (listed' := (bm 19 31)); rfl; kernel_rfl; kernel_rfl; (first | (apply Still.index; rfl; rfl; rfl; rfl; (exact eqAuto); omega; omega; (first | (simp only [Int.toNat_natCast, Nat.mul_one, Nat.zero_add, Int.reduceToNat, Nat.reduceMul, Nat.reduceAdd, Nat.zero_mul]; exact rfl) | rfl); exact hparts) | (apply Still.sliceHi; rfl; rfl; rfl; (exact eqAuto); omega; omega; rfl) | (apply Still.load; rfl; rfl; (exact Rd.any); (first | rfl | exact flat_get0 (by assumption) | exact flat_get1 (by assumption) | exact flat_get2 (by assumption) | exact flat_get3 (by assumption) | exact flat_get4 (by assumption))) | (apply Still.loadAgg; rfl; rfl; (exact eqAuto); (exact Rd.any); (first | exact flat_take (by assumption) | rfl); rfl)); (first | exact hS | exact hS.tail | exact hS.sublist (by repeat (first | exact List.Sublist.refl _ | refine .cons_cons _ ?_ | refine .cons _ ?_))); rfl)
      all_goals (apply RH.take (i := 5) (listed := (bm 19 31)) (listed' := (bm 19 63)); rfl; kernel_rfl; kernel_rfl; (apply Still.fieldAddr; rfl; (exact eqAuto)); (first | exact hS | exact hS.tail | exact hS.sublist (by repeat (first | exact List.Sublist.refl _ | refine .cons_cons _ ?_ | refine .cons _ ?_))); rfl)
      all_goals (apply RH.take (i := 6) (listed := (bm 19 63)) (listed' := (bm 19 127)); rfl; kernel_rfl; kernel_rfl; (first | (apply Still.index; rfl; rfl; rfl; rfl; (exact eqAuto); omega; omega; (first | (simp only [Int.toNat_natCast, Nat.mul_one, Nat.zero_add, Int.reduceToNat, Nat.reduceMul, Nat.reduceAdd, Nat.zero_mul]; exact rfl) | rfl); exact hparts) | (apply Still.sliceHi; rfl; rfl; rfl; (exact eqAuto); omega; omega; rfl) | (apply Still.load; rfl; rfl; (exact Rd.any); (first | rfl | exact flat_get0 (by assumption) | exact flat_get1 (by assumption) | exact flat_get2 (by assumption) | exact flat_get3 (by assumption) | exact flat_get4 (by assumption))) | (apply Still.loadAgg; rfl; rfl; (exact eqAuto); (exact Rd.any); (first | exact flat_take (by assumption) | rfl); rfl)); (first | exact hS | exact hS.tail | exact hS.sublist (by repeat (first | exact List.Sublist.refl _ | refine .cons_cons _ ?_ | refine .cons _ ?_))); rfl)
      all_goals (apply RH.take (i := 9) (listed := (bm 19 127)) (listed' := (bm 19 639)); rfl; kernel_rfl; kernel_rfl; (apply Still.fieldAddr; rfl; (exact eqAuto)); (first | exact hS | exact hS.tail | exact hS.sublist (by repeat (first | exact List.Sublist.refl _ | refine .cons_cons _ ?_ | refine .cons _ ?_))); rfl)
      all_goals (apply RH.take (i := 10) (listed := (bm 19 639)) (listed' := (bm 19 1663)); rfl; kernel_rfl; kernel_rfl; (first | (apply Still.index; rfl; rfl; rfl; rfl; (exact eqAuto); omega; omega; (first | (simp only [Int.toNat_natCast, Nat.mul_one, Nat.zero_add, Int.reduceToNat, Nat.reduceMul, Nat.reduceAdd, Nat.zero_mul]; exact rfl) | rfl); exact hparts) | (apply Still.sliceHi; rfl; rfl; rfl; (exact eqAuto); omega; omega; rfl) | (apply Still.load; rfl; rfl; (exact Rd.any); (first | rfl | exact flat_get0 (by assumption) | exact flat_get1 (by assumption) | exact flat_get2 (by assumption) | exact flat_get3 (by assumption) | exact flat_get4 (by assumption))) | (apply Still.loadAgg; rfl; rfl; (exact eqAuto); (exact Rd.any); (first | exact flat_take (by assumption) | rfl); rfl)); (first | exact hS | exact hS.tail | exact hS.sublist (by repeat (first | exact List.Sublist.refl _ | refine .cons_cons _ ?_ | refine .cons _ ?_))); rfl)
      all_goals
        apply RH.all2 (i1 := 7) (i2 := 8) (listed := (bm 19 1663))
        · kernel_rfl
        · apply RI.op (i := 7) (listed := (bm 19 1663)) (listed' := (bm 19 1791)); rfl; kernel_rfl
          all_goals try first
          | (apply OP.buildSlice hS; rfl; rfl; (exact eqAuto); rfl; rfl; rfl; rfl; rfl; clear hS; intro b w1 hS; refine ⟨(by first | exact hS | exact hS.tail | exact hS.sublist (by repeat (first | exact List.Sublist.refl _ | refine .cons_cons _ ?_ | refine .cons _ ?_))), ?_⟩)
          all_goals
            apply RH.all1 (i := 8) (listed := (bm 19 1791))
            · kernel_rfl
            · apply RI.op (i := 8) (listed := (bm 19 1791)) (listed' := (bm 19 2047)); rfl; kernel_rfl
              all_goals try first
              | (apply OP.callF; rfl; rfl; rfl; show Cl _ 36 _ _ _; exact rparts_calls hS; clear hS; rintro v w1 ⟨rfl, hS⟩; refine ⟨(by first | exact hS | exact hS.tail | exact hS.sublist (by repeat (first | exact List.Sublist.refl _ | refine .cons_cons _ ?_ | refine .cons _ ?_))), ?_⟩)
              | (apply OP.callF; rfl; rfl; rfl; show Cl _ 35 _ _ _; refine used_yes (xs := argsS ⟨op, n, z1, z2, z3⟩) (cs := [.int .i64 z1, .int .i64 z2, .int .i64 z3]) hlen hml hal hall ?_ hargs (hS.take2 (by focus ((repeat (first | apply Has.head | apply Take.head | apply Put.head | apply Has.tail | apply Take.tail | apply Put.tail)); done)) (by focus ((repeat (first | apply Has.head | apply Take.head | apply Put.head | apply Has.tail | apply Take.tail | apply Put.tail)); done))); (exact Rd.any); clear hS; rintro v w1 ⟨ov, rfl, hS⟩; refine ⟨(by first | exact hS | exact hS.tail | exact hS.sublist (by repeat (first | exact List.Sublist.refl _ | refine .cons_cons _ ?_ | refine .cons _ ?_))), ?_⟩)
              | (apply OP.callF; rfl; rfl; rfl; show Cl _ 35 _ _ _; refine used_no (xs := argsS ⟨op, n, z1, z2, z3⟩) (cs := [.int .i64 z1, .int .i64 z2, .int .i64 z3]) hlen hml hal hall ?_ hargs (hS.take2 (by focus ((repeat (first | apply Has.head | apply Take.head | apply Put.head | apply Has.tail | apply Take.tail | apply Put.tail)); done)) (by focus ((repeat (first | apply Has.head | apply Take.head | apply Put.head | apply Has.tail | apply Take.tail | apply Put.tail)); done))); (exact Rd.any); clear hS; rintro v w1 ⟨rfl, hS⟩; refine ⟨(by first | exact hS | exact hS.tail | exact hS.sublist (by repeat (first | exact List.Sublist.refl _ | refine .cons_cons _ ?_ | refine .cons _ ?_))), ?_⟩)
              | (refine OP.still (by exact Still.any) hS rfl ⟨(by first | exact hS | exact hS.tail | exact hS.sublist (by repeat (first | exact List.Sublist.refl _ | refine .cons_cons _ ?_ | refine .cons _ ?_))), ?_⟩)
              all_goals (apply RH.take (i := 11) (listed := (bm 19 2047)) (listed' := (bm 19 4095)); rfl; kernel_rfl; kernel_rfl; (first | (apply Still.index; rfl; rfl; rfl; rfl; (exact eqAuto); omega; omega; (first | (simp only [Int.toNat_natCast, Nat.mul_one, Nat.zero_add, Int.reduceToNat, Nat.reduceMul, Nat.reduceAdd, Nat.zero_mul]; exact rfl) | rfl); exact hparts) | (apply Still.sliceHi; rfl; rfl; rfl; (exact eqAuto); omega; omega; rfl) | (exact Still.any)); (first | exact hS | exact hS.tail | exact hS.sublist (by repeat (first | exact List.Sublist.refl _ | refine .cons_cons _ ?_ | refine .cons _ ?_))); rfl)
              all_goals (apply RH.take (i := 12) (listed := (bm 19 4095)) (listed' := (bm 19 8191)); rfl; kernel_rfl; kernel_rfl; (first | (apply Still.index; rfl; rfl; rfl; rfl; (exact eqAuto); omega; omega; (first | (simp only [Int.toNat_natCast, Nat.mul_one, Nat.zero_add, Int.reduceToNat, Nat.reduceMul, Nat.reduceAdd, Nat.zero_mul]; exact rfl) | rfl); exact hparts) | (apply Still.sliceHi; rfl; rfl; rfl; (exact eqAuto); omega; omega; rfl) | (exact Still.any)); (first | exact hS | exact hS.tail | exact hS.sublist (by repeat (first | exact List.Sublist.refl _ | refine .cons_cons _ ?_ | refine .cons _ ?_))); rfl)
              all_goals
                apply RH.all1 (i := 13) (listed := (bm 19 8191))
                · kernel_rfl
                · apply RI.op (i := 13) (listed := (bm 19 8191)) (listed' := (bm 19 16383)); rfl; kernel_rfl
                  all_goals try first
                  | (apply OP.callF; rfl; rfl; rfl; show Cl _ 36 _ _ _; exact rparts_calls hS; clear hS; rintro v w1 ⟨rfl, hS⟩; refine ⟨(by first | exact hS | exact hS.tail | exact hS.sublist (by repeat (first | exact List.Sublist.refl _ | refine .cons_cons _ ?_ | refine .cons _ ?_))), ?_⟩)
                  | (apply OP.callF; rfl; rfl; rfl; show Cl _ 35 _ _ _; refine used_yes (xs := argsS ⟨op, n, z1, z2, z3⟩) (cs := [.int .i64 z1, .int .i64 z2, .int .i64 z3]) hlen hml hal hall ?_ hargs (hS.take2 (by focus ((repeat (first | apply Has.head | apply Take.head | apply Put.head | apply Has.tail | apply Take.tail | apply Put.tail)); done)) (by focus ((repeat (first | apply Has.head | apply Take.head | apply Put.head | apply Has.tail | apply Take.tail | apply Put.tail)); done))); (exact Rd.any); clear hS; rintro v w1 ⟨ov, rfl, hS⟩; refine ⟨(by first | exact hS | exact hS.tail | exact hS.sublist (by repeat (first | exact List.Sublist.refl _ | refine .cons_cons _ ?_ | refine .cons _ ?_))), ?_⟩)
                  | (apply OP.callF; rfl; rfl; rfl; show Cl _ 35 _ _ _; refine used_no (xs := argsS ⟨op, n, z1, z2, z3⟩) (cs := [.int .i64 z1, .int .i64 z2, .int .i64 z3]) hlen hml hal hall ?_ hargs (hS.take2 (by focus ((repeat (first | apply Has.head | apply Take.head | apply Put.head | apply Has.tail | apply Take.tail | apply Put.tail)); done)) (by focus ((repeat (first | apply Has.head | apply Take.head | apply Put.head | apply Has.tail | apply Take.tail | apply Put.tail)); done))); (exact Rd.any); clear hS; rintro v w1 ⟨rfl, hS⟩; refine ⟨(by first | exact hS | exact hS.tail | exact hS.sublist (by repeat (first | exact List.Sublist.refl _ | refine .cons_cons _ ?_ | refine .cons _ ?_))), ?_⟩)
                  | (refine OP.still (by exact Still.any) hS rfl ⟨(by first | exact hS | exact hS.tail | exact hS.sublist (by repeat (first | exact List.Sublist.refl _ | refine .cons_cons _ ?_ | refine .cons _ ?_))), ?_⟩)
                  all_goals (apply RH.take (i := 14) (listed := (bm 19 16383)) (listed' := (bm 19 32767)); rfl; kernel_rfl; kernel_rfl; (apply Still.move; rfl); (first | exact hS | exact hS.tail | exact hS.sublist (by repeat (first | exact List.Sublist.refl _ | refine .cons_cons _ ?_ | refine .cons _ ?_))); rfl)
                  all_goals (apply RH.take (i := 15) (listed := (bm 19 32767)) (listed' := (bm 19 65535)); rfl; kernel_rfl; kernel_rfl; (apply Still.extract; rfl; rfl); (first | exact hS | exact hS.tail | exact hS.sublist (by repeat (first | exact List.Sublist.refl _ | refine .cons_cons _ ?_ | refine .cons _ ?_))); rfl)
                  all_goals (apply RH.take (i := 16) (listed := (bm 19 65535)) (listed' := (bm 19 131071)); rfl; kernel_rfl; kernel_rfl; (apply Still.extract; rfl; rfl); (first | exact hS | exact hS.tail | exact hS.sublist (by repeat (first | exact List.Sublist.refl _ | refine .cons_cons _ ?_ | refine .cons _ ?_))); rfl)
                  all_goals (apply RH.take (i := 17) (listed := (bm 19 131071)) (listed' := (bm 19 262143)); rfl; kernel_rfl; kernel_rfl; (apply Still.assign; rfl); (first | exact hS | exact hS.tail | exact hS.sublist (by repeat (first | exact List.Sublist.refl _ | refine .cons_cons _ ?_ | refine .cons _ ?_))); rfl)
                  all_goals (apply RH.take (i := 18) (listed := (bm 19 262143)) (listed' := (bm 19 524287)); rfl; kernel_rfl; kernel_rfl; (apply Still.assign; rfl); (first | exact hS | exact hS.tail | exact hS.sublist (by repeat (first | exact List.Sublist.refl _ | refine .cons_cons _ ?_ | refine .cons _ ?_))); rfl)
                  all_goals (apply RH.done (listed := (bm 19 524287)); kernel_rfl)
                  all_goals (exact ⟨(), (by focus ((repeat (first | exact .nil | refine .cons rfl ?_)); done)), hS.picks (by focus ((repeat (first | apply Picks.all | apply Picks.nil | (refine Picks.cons (by repeat (first | apply Take.head | apply Take.tail)) ?_) | apply Picks.drop)); done))⟩)
        · apply RI.op (i := 8) (listed := (bm 19 1663)) (listed' := (bm 19 1919)); rfl; kernel_rfl
          all_goals try first
          | (apply OP.callF; rfl; rfl; rfl; show Cl _ 36 _ _ _; exact rparts_calls hS; clear hS; rintro v w1 ⟨rfl, hS⟩; refine ⟨(by first | exact hS | exact hS.tail | exact hS.sublist (by repeat (first | exact List.Sublist.refl _ | refine .cons_cons _ ?_ | refine .cons _ ?_))), ?_⟩)
          | (apply OP.callF; rfl; rfl; rfl; show Cl _ 35 _ _ _; refine used_yes (xs := argsS ⟨op, n, z1, z2, z3⟩) (cs := [.int .i64 z1, .int .i64 z2, .int .i64 z3]) hlen hml hal hall ?_ hargs (hS.take2 (by focus ((repeat (first | apply Has.head | apply Take.head | apply Put.head | apply Has.tail | apply Take.tail | apply Put.tail)); done)) (by focus ((repeat (first | apply Has.head | apply Take.head | apply Put.head | apply Has.tail | apply Take.tail | apply Put.tail)); done))); (exact Rd.any); clear hS; rintro v w1 ⟨ov, rfl, hS⟩; refine ⟨(by first | exact hS | exact hS.tail | exact hS.sublist (by repeat (first | exact List.Sublist.refl _ | refine .cons_cons _ ?_ | refine .cons _ ?_))), ?_⟩)
          | (apply OP.callF; rfl; rfl; rfl; show Cl _ 35 _ _ _; refine used_no (xs := argsS ⟨op, n, z1, z2, z3⟩) (cs := [.int .i64 z1, .int .i64 z2, .int .i64 z3]) hlen hml hal hall ?_ hargs (hS.take2 (by focus ((repeat (first | apply Has.head | apply Take.head | apply Put.head | apply Has.tail | apply Take.tail | apply Put.tail)); done)) (by focus ((repeat (first | apply Has.head | apply Take.head | apply Put.head | apply Has.tail | apply Take.tail | apply Put.tail)); done))); (exact Rd.any); clear hS; rintro v w1 ⟨rfl, hS⟩; refine ⟨(by first | exact hS | exact hS.tail | exact hS.sublist (by repeat (first | exact List.Sublist.refl _ | refine .cons_cons _ ?_ | refine .cons _ ?_))), ?_⟩)
          | (refine OP.still (by exact Still.any) hS rfl ⟨(by first | exact hS | exact hS.tail | exact hS.sublist (by repeat (first | exact List.Sublist.refl _ | refine .cons_cons _ ?_ | refine .cons _ ?_))), ?_⟩)
          all_goals (apply RH.take (i := 11) (listed := (bm 19 1919)) (listed' := (bm 19 3967)); rfl; kernel_rfl; kernel_rfl; (first | (apply Still.index; rfl; rfl; rfl; rfl; (exact eqAuto); omega; omega; (first | (simp only [Int.toNat_natCast, Nat.mul_one, Nat.zero_add, Int.reduceToNat, Nat.reduceMul, Nat.reduceAdd, Nat.zero_mul]; exact rfl) | rfl); exact hparts) | (apply Still.sliceHi; rfl; rfl; rfl; (exact eqAuto); omega; omega; rfl) | (exact Still.any)); (first | exact hS | exact hS.tail | exact hS.sublist (by repeat (first | exact List.Sublist.refl _ | refine .cons_cons _ ?_ | refine .cons _ ?_))); rfl)
          all_goals
            apply RH.all1 (i := 7) (listed := (bm 19 3967))
            · kernel_rfl
            · apply RI.op (i := 7) (listed := (bm 19 3967)) (listed' := (bm 19 4095)); rfl; kernel_rfl
              all_goals try first
              | (apply OP.buildSlice hS; rfl; rfl; (exact eqAuto); rfl; rfl; rfl; rfl; rfl; clear hS; intro b w1 hS; refine ⟨(by first | exact hS | exact hS.tail | exact hS.sublist (by repeat (first | exact List.Sublist.refl _ | refine .cons_cons _ ?_ | refine .cons _ ?_))), ?_⟩)
              all_goals (apply RH.take (i := 12) (listed := (bm 19 4095)) (listed' := (bm 19 8191)); rfl; kernel_rfl; kernel_rfl; (first | (apply Still.index; rfl; rfl; rfl; rfl; (exact eqAuto); omega; omega; (first | (simp only [Int.toNat_natCast, Nat.mul_one, Nat.zero_add, Int.reduceToNat, Nat.reduceMul, Nat.reduceAdd, Nat.zero_mul]; exact rfl) | rfl); exact hparts) | (apply Still.sliceHi; rfl; rfl; rfl; (exact eqAuto); omega; omega; rfl) | (exact Still.any)); (first | exact hS | exact hS.tail | exact hS.sublist (by repeat (first | exact List.Sublist.refl _ | refine .cons_cons _ ?_ | refine .cons _ ?_))); rfl)
              all_goals
                apply RH.all1 (i := 13) (listed := (bm 19 8191))
                · kernel_rfl
                · apply RI.op (i := 13) (listed := (bm 19 8191)) (listed' := (bm 19 16383)); rfl; kernel_rfl
                  all_goals try first
                  | (apply OP.callF; rfl; rfl; rfl; show Cl _ 36 _ _ _; exact rparts_calls hS; clear hS; rintro v w1 ⟨rfl, hS⟩; refine ⟨(by first | exact hS | exact hS.tail | exact hS.sublist (by repeat (first | exact List.Sublist.refl _ | refine .cons_cons _ ?_ | refine .cons _ ?_))), ?_⟩)
                  | (apply OP.callF; rfl; rfl; rfl; show Cl _ 35 _ _ _; refine used_yes (xs := argsS ⟨op, n, z1, z2, z3⟩) (cs := [.int .i64 z1, .int .i64 z2, .int .i64 z3]) hlen hml hal hall ?_ hargs (hS.take2 (by focus ((repeat (first | apply Has.head | apply Take.head | apply Put.head | apply Has.tail | apply Take.tail | apply Put.tail)); done)) (by focus ((repeat (first | apply Has.head | apply Take.head | apply Put.head | apply Has.tail | apply Take.tail | apply Put.tail)); done))); (exact Rd.any); clear hS; rintro v w1 ⟨ov, rfl, hS⟩; refine ⟨(by first | exact hS | exact hS.tail | exact hS.sublist (by repeat (first | exact List.Sublist.refl _ | refine .cons_cons _ ?_ | refine .cons _ ?_))), ?_⟩)
                  | (apply OP.callF; rfl; rfl; rfl; show Cl _ 35 _ _ _; refine used_no (xs := argsS ⟨op, n, z1, z2, z3⟩) (cs := [.int .i64 z1, .int .i64 z2, .int .i64 z3]) hlen hml hal hall ?_ hargs (hS.take2 (by focus ((repeat (first | apply Has.head | apply Take.head | apply Put.head | apply Has.tail | apply Take.tail | apply Put.tail)); done)) (by focus ((repeat (first | apply Has.head | apply Take.head | apply Put.head | apply Has.tail | apply Take.tail | apply Put.tail)); done))); (exact Rd.any); clear hS; rintro v w1 ⟨rfl, hS⟩; refine ⟨(by first | exact hS | exact hS.tail | exact hS.sublist (by repeat (first | exact List.Sublist.refl _ | refine .cons_cons _ ?_ | refine .cons _ ?_))), ?_⟩)
                  | (refine OP.still (by exact Still.any) hS rfl ⟨(by first | exact hS | exact hS.tail | exact hS.sublist (by repeat (first | exact List.Sublist.refl _ | refine .cons_cons _ ?_ | refine .cons _ ?_))), ?_⟩)
                  all_goals (apply RH.take (i := 14) (listed := (bm 19 16383)) (listed' := (bm 19 32767)); rfl; kernel_rfl; kernel_rfl; (apply Still.move; rfl); (first | exact hS | exact hS.tail | exact hS.sublist (by repeat (first | exact List.Sublist.refl _ | refine .cons_cons _ ?_ | refine .cons _ ?_))); rfl)
                  all_goals (apply RH.take (i := 15) (listed := (bm 19 32767)) (listed' := (bm 19 65535)); rfl; kernel_rfl; kernel_rfl; (apply Still.extract; rfl; rfl); (first | exact hS | exact hS.tail | exact hS.sublist (by repeat (first | exact List.Sublist.refl _ | refine .cons_cons _ ?_ | refine .cons _ ?_))); rfl)
                  all_goals (apply RH.take (i := 16) (listed := (bm 19 65535)) (listed' := (bm 19 131071)); rfl; kernel_rfl; kernel_rfl; (apply Still.extract; rfl; rfl); (first | exact hS | exact hS.tail | exact hS.sublist (by repeat (first | exact List.Sublist.refl _ | refine .cons_cons _ ?_ | refine .cons _ ?_))); rfl)
                  all_goals (apply RH.take (i := 17) (listed := (bm 19 131071)) (listed' := (bm 19 262143)); rfl; kernel_rfl; kernel_rfl; (apply Still.assign; rfl); (first | exact hS | exact hS.tail | exact hS.sublist (by repeat (first | exact List.Sublist.refl _ | refine .cons_cons _ ?_ | refine .cons _ ?_))); rfl)
                  all_goals (apply RH.take (i := 18) (listed := (bm 19 262143)) (listed' := (bm 19 524287)); rfl; kernel_rfl; kernel_rfl; (apply Still.assign; rfl); (first | exact hS | exact hS.tail | exact hS.sublist (by repeat (first | exact List.Sublist.refl _ | refine .cons_cons _ ?_ | refine .cons _ ?_))); rfl)
                  all_goals (apply RH.done (listed := (bm 19 524287)); kernel_rfl)
                  all_goals (exact ⟨(), (by focus ((repeat (first | exact .nil | refine .cons rfl ?_)); done)), hS.picks (by focus ((repeat (first | apply Picks.all | apply Picks.nil | (refine Picks.cons (by repeat (first | apply Take.head | apply Take.tail)) ?_) | apply Picks.drop)); done))⟩)
    · clear hS
      rintro ⟨⟩ w1 hS
      repeat' first
        | (apply RO.op; apply OP.callF; rfl; rfl; rfl; show Cl _ 13 _ _ _; exact heard_calls hhl (hS.take (by focus ((repeat (first | apply Has.head | apply Take.head | apply Put.head | apply Has.tail | apply Take.tail | apply Put.tail)); done))); clear hS; intro va w1 hS)
        | (apply OP.callF; rfl; rfl; rfl; show Cl _ 13 _ _ _; exact heard_calls hhl (hS.take (by focus ((repeat (first | apply Has.head | apply Take.head | apply Put.head | apply Has.tail | apply Take.tail | apply Put.tail)); done))); clear hS; intro va w1 hS; refine ⟨(by first | exact hS | exact hS.tail | exact hS.sublist (by repeat (first | exact List.Sublist.refl _ | refine .cons_cons _ ?_ | refine .cons _ ?_))), ?_⟩)
        | refine Run.seq ?_
        | refine Run.region ?_
        | (refine RO.split ?_ ?_ <;> intro hc <;> try (first | (exfalso; omega) | exact absurd rfl hc | exact Bool.noConfusion hc))
        | refine RO.nil ?_
        | refine RO.still (by exact Still.any) hS rfl ?_
        | (apply RO.op; apply OP.box hS; rfl; rfl; rfl; clear hS; intro b w1 hS)
        | (apply RO.op; apply OP.alloc hS; rfl; rfl; rfl; clear hS; intro b w1 hS)
        | (apply RO.op; apply OP.store hS; rfl; rfl; rfl; rfl; rfl; (focus ((repeat (first | apply Has.head | apply Take.head | apply Put.head | apply Has.tail | apply Take.tail | apply Put.tail)); done)); rfl; rfl; clear hS; intro w1 hS)
        | (apply RO.op; apply OP.buildSlice hS; rfl; rfl; (exact eqAuto); rfl; rfl; rfl; rfl; rfl; clear hS; intro b w1 hS)
        | (apply RO.op; apply OP.makeMap hS; rfl; clear hS; intro b w1 hS)
        | refine RO.yes rfl rfl ?_
        | refine RO.no rfl rfl rfl rfl ?_
        | refine RO.noUndef rfl rfl rfl ?_
        | refine RO.noNone rfl rfl rfl ?_
        | refine Run.cond_true rfl ?_
        | refine Run.cond_false rfl ?_
        | refine Run.skip ?_
        | refine Run.block ?_
        | refine Run.inBlock ?_
        | refine Run.exit rfl ?_
      refine Run.ret Try.func24 rfl (.tmp rfl (.tmp rfl .nil)) ?_
      exact ⟨rfl, hS.picks (by focus ((repeat (first | apply Picks.all | apply Picks.nil | (refine Picks.cons (by repeat (first | apply Take.head | apply Take.tail)) ?_) | apply Picks.drop)); done))⟩

set_option maxHeartbeats 16000000 in
theorem step_yes {s : Stp} (g : Good lim L) (hn : 0 ≤ s.n ∧ s.n ≤ 18446744073709551615) (hml : made.length ≤ 200000) (hhl : heard.length ≤ 200000) (hmh : AllHas L made) (hr : RightP s) (hall : (argsS s).all (ahd made) = true)
    (hS : St we ρ (Arena p lim L :: Row cb [.pointer (some ⟨p, 0, none⟩), .pointer (some ⟨kb, 0, none⟩), mv] 65 :: Vec 3 1 mv made.length (made.flatMap intL) :: KN kb p heard K :: F) w) :
    Cl Try.prog 24 [.pointer (some ⟨cb, 0, none⟩), .agg (stpL s).toArray] w fun v w' => v = .tuple #[.int .i64 (oneS lim L heard made s).2.1, .int .i64 (oneS lim L heard made s).2.2] ∧
      St we ρ (Arena p lim (oneS lim L heard made s).1 :: Row cb [.pointer (some ⟨p, 0, none⟩), .pointer (some ⟨kb, 0, none⟩), mv] 65 :: Vec 3 1 mv made.length (made.flatMap intL) :: KN kb p heard K :: F) w' := by
  have hright : ∀ {σ : List HP} {w : World}, St we ρ σ w → _ := fun {σ w} hS => rright_calls (we := we) (ρ := ρ) (σ := σ) (w := w) hn hS
  obtain ⟨op, n, z1, z2, z3⟩ := s
  replace hright : ∀ {σ : List HP} {w : World}, St we ρ σ w → Cl Try.prog 34 [.agg [Value.int .i64 op, Value.int .u64 n, Value.int .i64 z1, Value.int .i64 z2, Value.int .i64 z3].toArray] w fun v w' => v = .bool (decide (RightP ⟨op, n, z1, z2, z3⟩)) ∧ St we ρ σ w' := hright
  show Cl _ _ [_, .agg [Value.int .i64 op, Value.int .u64 n, Value.int .i64 z1, Value.int .i64 z2, Value.int .i64 z3].toArray] _ _
  simp only [decide_eq_true hr] at hright
  have hop : 0 ≤ op ∧ op ≤ 13 := ⟨hr.1.1, hr.1.2.1⟩
  have hparts := partsV_at hop
  have hlen := argsS_len ⟨op, n, z1, z2, z3⟩
  have hul := uses_le op
  have hal : (argsS ⟨op, n, z1, z2, z3⟩).length ≤ 3 := by rw [hlen]; exact hul
  have hargs := args_at op n z1 z2 z3
  simp only at hlen
  refine Run.calls2 (n := 97) Try.func24 rfl rfl rfl ?_
  repeat' first
    | (apply RO.op; apply OP.callF; rfl; rfl; rfl; show Cl _ 34 _ _ _; exact hright hS; clear hS; rintro v w1 ⟨rfl, hS⟩)
    | (apply OP.callF; rfl; rfl; rfl; show Cl _ 34 _ _ _; exact hright hS; clear hS; rintro v w1 ⟨rfl, hS⟩; refine ⟨(by first | exact hS | exact hS.tail | exact hS.sublist (by repeat (first | exact List.Sublist.refl _ | refine .cons_cons _ ?_ | refine .cons _ ?_))), ?_⟩)
    | refine Run.seq ?_
    | refine Run.region ?_
    | (refine RO.split ?_ ?_ <;> intro hc <;> try (first | (exfalso; omega) | exact absurd rfl hc | exact Bool.noConfusion hc))
    | refine RO.nil ?_
    | refine RO.still (by exact Still.any) hS rfl ?_
    | (apply RO.op; apply OP.box hS; rfl; rfl; rfl; clear hS; intro b w1 hS)
    | (apply RO.op; apply OP.alloc hS; rfl; rfl; rfl; clear hS; intro b w1 hS)
    | (apply RO.op; apply OP.store hS; rfl; rfl; rfl; rfl; rfl; (focus ((repeat (first | apply Has.head | apply Take.head | apply Put.head | apply Has.tail | apply Take.tail | apply Put.tail)); done)); rfl; rfl; clear hS; intro w1 hS)
    | (apply RO.op; apply OP.buildSlice hS; rfl; rfl; (exact eqAuto); rfl; rfl; rfl; rfl; rfl; clear hS; intro b w1 hS)
    | (apply RO.op; apply OP.makeMap hS; rfl; clear hS; intro b w1 hS)
    | refine RO.yes rfl rfl ?_
    | refine RO.no rfl rfl rfl rfl ?_
    | refine RO.noUndef rfl rfl rfl ?_
    | refine RO.noNone rfl rfl rfl ?_
    | refine Run.cond_true rfl ?_
    | refine Run.cond_false rfl ?_
    | refine Run.skip ?_
    | refine Run.block ?_
    | refine Run.inBlock ?_
    | refine Run.exit rfl ?_
  replace hS : St we ρ (Row cb [.pointer (some ⟨p, 0, none⟩), .pointer (some ⟨kb, 0, none⟩), mv] 65 :: Vec 3 1 mv made.length (made.flatMap intL) :: Arena p lim L :: KN kb p heard K :: Row b [.int .i64 op, .int .u64 n, .int .i64 z1, .int .i64 z2, .int .i64 z3] 41 :: F) _ := hS.picks (by focus ((repeat (first | apply Picks.all | apply Picks.nil | (refine Picks.cons (by repeat (first | apply Take.head | apply Take.tail)) ?_) | apply Picks.drop)); done))
  refine (Run.regionH_cut (fun ov : Value => Vec 3 1 ov ((argsS ⟨op, n, z1, z2, z3⟩).map (mde made)).length (((argsS ⟨op, n, z1, z2, z3⟩).map (mde made)).flatMap intL) :: Row cb [.pointer (some ⟨p, 0, none⟩), .pointer (some ⟨kb, 0, none⟩), mv] 65 :: Vec 3 1 mv made.length (made.flatMap intL) :: Arena p lim L :: KN kb p heard K :: Row b [.int .i64 op, .int .u64 n, .int .i64 z1, .int .i64 z2, .int .i64 z3] 41 :: F)
    (fun ov => [(0, .pointer (some ⟨cb, 0, none⟩)), (3, .pointer (some ⟨b, 0, none⟩)), (6, ov), (7, .bool true)])
    hS (.cons _ (.cons _ (List.Sublist.refl _))) (by rfl) (by rfl) (by rfl) ?_ ?_)
  · clear hS
    intro w1 hS
    refine RH.relist (listed' := bm 19 0) (by kernel_rfl) ?_
    all_goals (apply RH.take (i := 0) (listed := (bm 19 0)) (listed' := (bm 19 1)); rfl; kernel_rfl; kernel_rfl; (apply Still.move; rfl); (first | exact hS | exact hS.tail | exact hS.sublist (by repeat (first | exact List.Sublist.refl _ | refine .cons_cons _ ?_ | refine .cons _ ?_))); rfl)
    all_goals (apply RH.take (i := 1) (listed := (bm 19 1)) (listed' := (bm 19 3)); rfl; kernel_rfl; kernel_rfl; (apply Still.fieldAddr; rfl; (exact eqAuto)); (first | exact hS | exact hS.tail | exact hS.sublist (by repeat (first | exact List.Sublist.refl _ | refine .cons_cons _ ?_ | refine .cons _ ?_))); rfl)
    all_goals (apply RH.take (i := 2) (listed := (bm 19 3)) (listed' := (bm 19 7)); rfl; kernel_rfl; kernel_rfl; (first | (apply Still.index; rfl; rfl; rfl; rfl; (exact eqAuto); omega; omega; (first | (simp only [Int.toNat_natCast, Nat.mul_one, Nat.zero_add, Int.reduceToNat, Nat.reduceMul, Nat.reduceAdd, Nat.zero_mul]; exact rfl) | rfl); exact hparts) | (apply Still.sliceHi; rfl; rfl; rfl; (exact eqAuto); omega; omega; rfl) | (apply Still.load; rfl; rfl; (exact Rd.any); (first | rfl | exact flat_get0 (by assumption) | exact flat_get1 (by assumption) | exact flat_get2 (by assumption) | exact flat_get3 (by assumption) | exact flat_get4 (by assumption))) | (apply Still.loadAgg; rfl; rfl; (exact eqAuto); (exact Rd.any); (first | exact flat_take (by assumption) | rfl); rfl)); (first | exact hS | exact hS.tail | exact hS.sublist (by repeat (first | exact List.Sublist.refl _ | refine .cons_cons _ ?_ | refine .cons _ ?_))); rfl)
    all_goals (apply RH.take (i := 3) (listed := (bm 19 7)) (listed' := (bm 19 15)); rfl; kernel_rfl; kernel_rfl; (apply Still.fieldAddr; rfl; (exact eqAuto)); (first | exact hS | exact hS.tail | exact hS.sublist (by repeat (first | exact List.Sublist.refl _ | refine .cons_cons _ ?_ | refine .cons _ ?_))); rfl)
    all_goals (apply RH.take (i := 4) (listed := (bm 19 15)) (listed' := (bm 19 31)); rfl; kernel_rfl; kernel_rfl; (first | (apply Still.index; rfl; rfl; rfl; rfl; (exact eqAuto); omega; omega; (first | (simp only [Int.toNat_natCast, Nat.mul_one, Nat.zero_add, Int.reduceToNat, Nat.reduceMul, Nat.reduceAdd, Nat.zero_mul]; exact rfl) | rfl); exact hparts) | (apply Still.sliceHi; rfl; rfl; rfl; (exact eqAuto); omega; omega; rfl) | (apply Still.load; rfl; rfl; (exact Rd.any); (first | rfl | exact flat_get0 (by assumption) | exact flat_get1 (by assumption) | exact flat_get2 (by assumption) | exact flat_get3 (by assumption) | exact flat_get4 (by assumption))) | (apply Still.loadAgg; rfl; rfl; (exact eqAuto); (exact Rd.any); (first | exact flat_take (by assumption) | rfl); rfl)); (first | exact hS | exact hS.tail | exact hS.sublist (by repeat (first | exact List.Sublist.refl _ | refine .cons_cons _ ?_ | refine .cons _ ?_))); rfl)
    all_goals (apply RH.take (i := 5) (listed := (bm 19 31)) (listed' := (bm 19 63)); rfl; kernel_rfl; kernel_rfl; (apply Still.fieldAddr; rfl; (exact eqAuto)); (first | exact hS | exact hS.tail | exact hS.sublist (by repeat (first | exact List.Sublist.refl _ | refine .cons_cons _ ?_ | refine .cons _ ?_))); rfl)
    all_goals (apply RH.take (i := 6) (listed := (bm 19 63)) (listed' := (bm 19 127)); rfl; kernel_rfl; kernel_rfl; (first | (apply Still.index; rfl; rfl; rfl; rfl; (exact eqAuto); omega; omega; (first | (simp only [Int.toNat_natCast, Nat.mul_one, Nat.zero_add, Int.reduceToNat, Nat.reduceMul, Nat.reduceAdd, Nat.zero_mul]; exact rfl) | rfl); exact hparts) | (apply Still.sliceHi; rfl; rfl; rfl; (exact eqAuto); omega; omega; rfl) | (apply Still.load; rfl; rfl; (exact Rd.any); (first | rfl | exact flat_get0 (by assumption) | exact flat_get1 (by assumption) | exact flat_get2 (by assumption) | exact flat_get3 (by assumption) | exact flat_get4 (by assumption))) | (apply Still.loadAgg; rfl; rfl; (exact eqAuto); (exact Rd.any); (first | exact flat_take (by assumption) | rfl); rfl)); (first | exact hS | exact hS.tail | exact hS.sublist (by repeat (first | exact List.Sublist.refl _ | refine .cons_cons _ ?_ | refine .cons _ ?_))); rfl)
    all_goals (apply RH.take (i := 9) (listed := (bm 19 127)) (listed' := (bm 19 639)); rfl; kernel_rfl; kernel_rfl; (apply Still.fieldAddr; rfl; (exact eqAuto)); (first | exact hS | exact hS.tail | exact hS.sublist (by repeat (first | exact List.Sublist.refl _ | refine .cons_cons _ ?_ | refine .cons _ ?_))); rfl)
    all_goals (apply RH.take (i := 10) (listed := (bm 19 639)) (listed' := (bm 19 1663)); rfl; kernel_rfl; kernel_rfl; (first | (apply Still.index; rfl; rfl; rfl; rfl; (exact eqAuto); omega; omega; (first | (simp only [Int.toNat_natCast, Nat.mul_one, Nat.zero_add, Int.reduceToNat, Nat.reduceMul, Nat.reduceAdd, Nat.zero_mul]; exact rfl) | rfl); exact hparts) | (apply Still.sliceHi; rfl; rfl; rfl; (exact eqAuto); omega; omega; rfl) | (apply Still.load; rfl; rfl; (exact Rd.any); (first | rfl | exact flat_get0 (by assumption) | exact flat_get1 (by assumption) | exact flat_get2 (by assumption) | exact flat_get3 (by assumption) | exact flat_get4 (by assumption))) | (apply Still.loadAgg; rfl; rfl; (exact eqAuto); (exact Rd.any); (first | exact flat_take (by assumption) | rfl); rfl)); (first | exact hS | exact hS.tail | exact hS.sublist (by repeat (first | exact List.Sublist.refl _ | refine .cons_cons _ ?_ | refine .cons _ ?_))); rfl)
    all_goals
      apply RH.all2 (i1 := 7) (i2 := 8) (listed := (bm 19 1663))
      · kernel_rfl
      · apply RI.op (i := 7) (listed := (bm 19 1663)) (listed' := (bm 19 1791)); rfl; kernel_rfl
        all_goals try first
        | (apply OP.buildSlice hS; rfl; rfl; (exact eqAuto); rfl; rfl; rfl; rfl; rfl; clear hS; intro b w1 hS; refine ⟨(by first | exact hS | exact hS.tail | exact hS.sublist (by repeat (first | exact List.Sublist.refl _ | refine .cons_cons _ ?_ | refine .cons _ ?_))), ?_⟩)
        all_goals
          apply RH.all1 (i := 8) (listed := (bm 19 1791))
          · kernel_rfl
          · apply RI.op (i := 8) (listed := (bm 19 1791)) (listed' := (bm 19 2047)); rfl; kernel_rfl
            all_goals try first
            | (apply OP.callF; rfl; rfl; rfl; show Cl _ 36 _ _ _; exact rparts_calls hS; clear hS; rintro v w1 ⟨rfl, hS⟩; refine ⟨(by first | exact hS | exact hS.tail | exact hS.sublist (by repeat (first | exact List.Sublist.refl _ | refine .cons_cons _ ?_ | refine .cons _ ?_))), ?_⟩)
            | (apply OP.callF; rfl; rfl; rfl; show Cl _ 35 _ _ _; refine used_yes (xs := argsS ⟨op, n, z1, z2, z3⟩) (cs := [.int .i64 z1, .int .i64 z2, .int .i64 z3]) hlen hml hal hall ?_ hargs (hS.take2 (by focus ((repeat (first | apply Has.head | apply Take.head | apply Put.head | apply Has.tail | apply Take.tail | apply Put.tail)); done)) (by focus ((repeat (first | apply Has.head | apply Take.head | apply Put.head | apply Has.tail | apply Take.tail | apply Put.tail)); done))); (exact Rd.any); clear hS; rintro v w1 ⟨ov, rfl, hS⟩; refine ⟨(by first | exact hS | exact hS.tail | exact hS.sublist (by repeat (first | exact List.Sublist.refl _ | refine .cons_cons _ ?_ | refine .cons _ ?_))), ?_⟩)
            | (apply OP.callF; rfl; rfl; rfl; show Cl _ 35 _ _ _; refine used_no (xs := argsS ⟨op, n, z1, z2, z3⟩) (cs := [.int .i64 z1, .int .i64 z2, .int .i64 z3]) hlen hml hal hall ?_ hargs (hS.take2 (by focus ((repeat (first | apply Has.head | apply Take.head | apply Put.head | apply Has.tail | apply Take.tail | apply Put.tail)); done)) (by focus ((repeat (first | apply Has.head | apply Take.head | apply Put.head | apply Has.tail | apply Take.tail | apply Put.tail)); done))); (exact Rd.any); clear hS; rintro v w1 ⟨rfl, hS⟩; refine ⟨(by first | exact hS | exact hS.tail | exact hS.sublist (by repeat (first | exact List.Sublist.refl _ | refine .cons_cons _ ?_ | refine .cons _ ?_))), ?_⟩)
            | (refine OP.still (by exact Still.any) hS rfl ⟨(by first | exact hS | exact hS.tail | exact hS.sublist (by repeat (first | exact List.Sublist.refl _ | refine .cons_cons _ ?_ | refine .cons _ ?_))), ?_⟩)
            all_goals (apply RH.take (i := 11) (listed := (bm 19 2047)) (listed' := (bm 19 4095)); rfl; kernel_rfl; kernel_rfl; (first | (apply Still.index; rfl; rfl; rfl; rfl; (exact eqAuto); omega; omega; (first | (simp only [Int.toNat_natCast, Nat.mul_one, Nat.zero_add, Int.reduceToNat, Nat.reduceMul, Nat.reduceAdd, Nat.zero_mul]; exact rfl) | rfl); exact hparts) | (apply Still.sliceHi; rfl; rfl; rfl; (exact eqAuto); omega; omega; rfl) | (exact Still.any)); (first | exact hS | exact hS.tail | exact hS.sublist (by repeat (first | exact List.Sublist.refl _ | refine .cons_cons _ ?_ | refine .cons _ ?_))); rfl)
            all_goals (apply RH.take (i := 12) (listed := (bm 19 4095)) (listed' := (bm 19 8191)); rfl; kernel_rfl; kernel_rfl; (first | (apply Still.index; rfl; rfl; rfl; rfl; (exact eqAuto); omega; omega; (first | (simp only [Int.toNat_natCast, Nat.mul_one, Nat.zero_add, Int.reduceToNat, Nat.reduceMul, Nat.reduceAdd, Nat.zero_mul]; exact rfl) | rfl); exact hparts) | (apply Still.sliceHi; rfl; rfl; rfl; (exact eqAuto); omega; omega; rfl) | (exact Still.any)); (first | exact hS | exact hS.tail | exact hS.sublist (by repeat (first | exact List.Sublist.refl _ | refine .cons_cons _ ?_ | refine .cons _ ?_))); rfl)
            all_goals
              apply RH.all1 (i := 13) (listed := (bm 19 8191))
              · kernel_rfl
              · apply RI.op (i := 13) (listed := (bm 19 8191)) (listed' := (bm 19 16383)); rfl; kernel_rfl
                all_goals try first
                | (apply OP.callF; rfl; rfl; rfl; show Cl _ 36 _ _ _; exact rparts_calls hS; clear hS; rintro v w1 ⟨rfl, hS⟩; refine ⟨(by first | exact hS | exact hS.tail | exact hS.sublist (by repeat (first | exact List.Sublist.refl _ | refine .cons_cons _ ?_ | refine .cons _ ?_))), ?_⟩)
                | (apply OP.callF; rfl; rfl; rfl; show Cl _ 35 _ _ _; refine used_yes (xs := argsS ⟨op, n, z1, z2, z3⟩) (cs := [.int .i64 z1, .int .i64 z2, .int .i64 z3]) hlen hml hal hall ?_ hargs (hS.take2 (by focus ((repeat (first | apply Has.head | apply Take.head | apply Put.head | apply Has.tail | apply Take.tail | apply Put.tail)); done)) (by focus ((repeat (first | apply Has.head | apply Take.head | apply Put.head | apply Has.tail | apply Take.tail | apply Put.tail)); done))); (exact Rd.any); clear hS; rintro v w1 ⟨ov, rfl, hS⟩; refine ⟨(by first | exact hS | exact hS.tail | exact hS.sublist (by repeat (first | exact List.Sublist.refl _ | refine .cons_cons _ ?_ | refine .cons _ ?_))), ?_⟩)
                | (apply OP.callF; rfl; rfl; rfl; show Cl _ 35 _ _ _; refine used_no (xs := argsS ⟨op, n, z1, z2, z3⟩) (cs := [.int .i64 z1, .int .i64 z2, .int .i64 z3]) hlen hml hal hall ?_ hargs (hS.take2 (by focus ((repeat (first | apply Has.head | apply Take.head | apply Put.head | apply Has.tail | apply Take.tail | apply Put.tail)); done)) (by focus ((repeat (first | apply Has.head | apply Take.head | apply Put.head | apply Has.tail | apply Take.tail | apply Put.tail)); done))); (exact Rd.any); clear hS; rintro v w1 ⟨rfl, hS⟩; refine ⟨(by first | exact hS | exact hS.tail | exact hS.sublist (by repeat (first | exact List.Sublist.refl _ | refine .cons_cons _ ?_ | refine .cons _ ?_))), ?_⟩)
                | (refine OP.still (by exact Still.any) hS rfl ⟨(by first | exact hS | exact hS.tail | exact hS.sublist (by repeat (first | exact List.Sublist.refl _ | refine .cons_cons _ ?_ | refine .cons _ ?_))), ?_⟩)
                all_goals (apply RH.take (i := 14) (listed := (bm 19 16383)) (listed' := (bm 19 32767)); rfl; kernel_rfl; kernel_rfl; (apply Still.move; rfl); (first | exact hS | exact hS.tail | exact hS.sublist (by repeat (first | exact List.Sublist.refl _ | refine .cons_cons _ ?_ | refine .cons _ ?_))); rfl)
                all_goals (apply RH.take (i := 15) (listed := (bm 19 32767)) (listed' := (bm 19 65535)); rfl; kernel_rfl; kernel_rfl; (apply Still.extract; rfl; rfl); (first | exact hS | exact hS.tail | exact hS.sublist (by repeat (first | exact List.Sublist.refl _ | refine .cons_cons _ ?_ | refine .cons _ ?_))); rfl)
                all_goals (apply RH.take (i := 16) (listed := (bm 19 65535)) (listed' := (bm 19 131071)); rfl; kernel_rfl; kernel_rfl; (apply Still.extract; rfl; rfl); (first | exact hS | exact hS.tail | exact hS.sublist (by repeat (first | exact List.Sublist.refl _ | refine .cons_cons _ ?_ | refine .cons _ ?_))); rfl)
                all_goals (apply RH.take (i := 17) (listed := (bm 19 131071)) (listed' := (bm 19 262143)); rfl; kernel_rfl; kernel_rfl; (apply Still.assign; rfl); (first | exact hS | exact hS.tail | exact hS.sublist (by repeat (first | exact List.Sublist.refl _ | refine .cons_cons _ ?_ | refine .cons _ ?_))); rfl)
                all_goals (apply RH.take (i := 18) (listed := (bm 19 262143)) (listed' := (bm 19 524287)); rfl; kernel_rfl; kernel_rfl; (apply Still.assign; rfl); (first | exact hS | exact hS.tail | exact hS.sublist (by repeat (first | exact List.Sublist.refl _ | refine .cons_cons _ ?_ | refine .cons _ ?_))); rfl)
                all_goals (apply RH.done (listed := (bm 19 524287)); kernel_rfl)
                all_goals (exact ⟨_, (by focus ((repeat (first | exact .nil | refine .cons rfl ?_)); done)), hS.picks (by focus ((repeat (first | apply Picks.all | apply Picks.nil | (refine Picks.cons (by repeat (first | apply Take.head | apply Take.tail)) ?_) | apply Picks.drop)); done))⟩)
      · apply RI.op (i := 8) (listed := (bm 19 1663)) (listed' := (bm 19 1919)); rfl; kernel_rfl
        all_goals try first
        | (apply OP.callF; rfl; rfl; rfl; show Cl _ 36 _ _ _; exact rparts_calls hS; clear hS; rintro v w1 ⟨rfl, hS⟩; refine ⟨(by first | exact hS | exact hS.tail | exact hS.sublist (by repeat (first | exact List.Sublist.refl _ | refine .cons_cons _ ?_ | refine .cons _ ?_))), ?_⟩)
        | (apply OP.callF; rfl; rfl; rfl; show Cl _ 35 _ _ _; refine used_yes (xs := argsS ⟨op, n, z1, z2, z3⟩) (cs := [.int .i64 z1, .int .i64 z2, .int .i64 z3]) hlen hml hal hall ?_ hargs (hS.take2 (by focus ((repeat (first | apply Has.head | apply Take.head | apply Put.head | apply Has.tail | apply Take.tail | apply Put.tail)); done)) (by focus ((repeat (first | apply Has.head | apply Take.head | apply Put.head | apply Has.tail | apply Take.tail | apply Put.tail)); done))); (exact Rd.any); clear hS; rintro v w1 ⟨ov, rfl, hS⟩; refine ⟨(by first | exact hS | exact hS.tail | exact hS.sublist (by repeat (first | exact List.Sublist.refl _ | refine .cons_cons _ ?_ | refine .cons _ ?_))), ?_⟩)
        | (apply OP.callF; rfl; rfl; rfl; show Cl _ 35 _ _ _; refine used_no (xs := argsS ⟨op, n, z1, z2, z3⟩) (cs := [.int .i64 z1, .int .i64 z2, .int .i64 z3]) hlen hml hal hall ?_ hargs (hS.take2 (by focus ((repeat (first | apply Has.head | apply Take.head | apply Put.head | apply Has.tail | apply Take.tail | apply Put.tail)); done)) (by focus ((repeat (first | apply Has.head | apply Take.head | apply Put.head | apply Has.tail | apply Take.tail | apply Put.tail)); done))); (exact Rd.any); clear hS; rintro v w1 ⟨rfl, hS⟩; refine ⟨(by first | exact hS | exact hS.tail | exact hS.sublist (by repeat (first | exact List.Sublist.refl _ | refine .cons_cons _ ?_ | refine .cons _ ?_))), ?_⟩)
        | (refine OP.still (by exact Still.any) hS rfl ⟨(by first | exact hS | exact hS.tail | exact hS.sublist (by repeat (first | exact List.Sublist.refl _ | refine .cons_cons _ ?_ | refine .cons _ ?_))), ?_⟩)
        all_goals (apply RH.take (i := 11) (listed := (bm 19 1919)) (listed' := (bm 19 3967)); rfl; kernel_rfl; kernel_rfl; (first | (apply Still.index; rfl; rfl; rfl; rfl; (exact eqAuto); omega; omega; (first | (simp only [Int.toNat_natCast, Nat.mul_one, Nat.zero_add, Int.reduceToNat, Nat.reduceMul, Nat.reduceAdd, Nat.zero_mul]; exact rfl) | rfl); exact hparts) | (apply Still.sliceHi; rfl; rfl; rfl; (exact eqAuto); omega; omega; rfl) | (exact Still.any)); (first | exact hS | exact hS.tail | exact hS.sublist (by repeat (first | exact List.Sublist.refl _ | refine .cons_cons _ ?_ | refine .cons _ ?_))); rfl)
        all_goals
          apply RH.all1 (i := 7) (listed := (bm 19 3967))
          · kernel_rfl
          · apply RI.op (i := 7) (listed := (bm 19 3967)) (listed' := (bm 19 4095)); rfl; kernel_rfl
            all_goals try first
            | (apply OP.buildSlice hS; rfl; rfl; (exact eqAuto); rfl; rfl; rfl; rfl; rfl; clear hS; intro b w1 hS; refine ⟨(by first | exact hS | exact hS.tail | exact hS.sublist (by repeat (first | exact List.Sublist.refl _ | refine .cons_cons _ ?_ | refine .cons _ ?_))), ?_⟩)
            all_goals (apply RH.take (i := 12) (listed := (bm 19 4095)) (listed' := (bm 19 8191)); rfl; kernel_rfl; kernel_rfl; (first | (apply Still.index; rfl; rfl; rfl; rfl; (exact eqAuto); omega; omega; (first | (simp only [Int.toNat_natCast, Nat.mul_one, Nat.zero_add, Int.reduceToNat, Nat.reduceMul, Nat.reduceAdd, Nat.zero_mul]; exact rfl) | rfl); exact hparts) | (apply Still.sliceHi; rfl; rfl; rfl; (exact eqAuto); omega; omega; rfl) | (exact Still.any)); (first | exact hS | exact hS.tail | exact hS.sublist (by repeat (first | exact List.Sublist.refl _ | refine .cons_cons _ ?_ | refine .cons _ ?_))); rfl)
            all_goals
              apply RH.all1 (i := 13) (listed := (bm 19 8191))
              · kernel_rfl
              · apply RI.op (i := 13) (listed := (bm 19 8191)) (listed' := (bm 19 16383)); rfl; kernel_rfl
                all_goals try first
                | (apply OP.callF; rfl; rfl; rfl; show Cl _ 36 _ _ _; exact rparts_calls hS; clear hS; rintro v w1 ⟨rfl, hS⟩; refine ⟨(by first | exact hS | exact hS.tail | exact hS.sublist (by repeat (first | exact List.Sublist.refl _ | refine .cons_cons _ ?_ | refine .cons _ ?_))), ?_⟩)
                | (apply OP.callF; rfl; rfl; rfl; show Cl _ 35 _ _ _; refine used_yes (xs := argsS ⟨op, n, z1, z2, z3⟩) (cs := [.int .i64 z1, .int .i64 z2, .int .i64 z3]) hlen hml hal hall ?_ hargs (hS.take2 (by focus ((repeat (first | apply Has.head | apply Take.head | apply Put.head | apply Has.tail | apply Take.tail | apply Put.tail)); done)) (by focus ((repeat (first | apply Has.head | apply Take.head | apply Put.head | apply Has.tail | apply Take.tail | apply Put.tail)); done))); (exact Rd.any); clear hS; rintro v w1 ⟨ov, rfl, hS⟩; refine ⟨(by first | exact hS | exact hS.tail | exact hS.sublist (by repeat (first | exact List.Sublist.refl _ | refine .cons_cons _ ?_ | refine .cons _ ?_))), ?_⟩)
                | (apply OP.callF; rfl; rfl; rfl; show Cl _ 35 _ _ _; refine used_no (xs := argsS ⟨op, n, z1, z2, z3⟩) (cs := [.int .i64 z1, .int .i64 z2, .int .i64 z3]) hlen hml hal hall ?_ hargs (hS.take2 (by focus ((repeat (first | apply Has.head | apply Take.head | apply Put.head | apply Has.tail | apply Take.tail | apply Put.tail)); done)) (by focus ((repeat (first | apply Has.head | apply Take.head | apply Put.head | apply Has.tail | apply Take.tail | apply Put.tail)); done))); (exact Rd.any); clear hS; rintro v w1 ⟨rfl, hS⟩; refine ⟨(by first | exact hS | exact hS.tail | exact hS.sublist (by repeat (first | exact List.Sublist.refl _ | refine .cons_cons _ ?_ | refine .cons _ ?_))), ?_⟩)
                | (refine OP.still (by exact Still.any) hS rfl ⟨(by first | exact hS | exact hS.tail | exact hS.sublist (by repeat (first | exact List.Sublist.refl _ | refine .cons_cons _ ?_ | refine .cons _ ?_))), ?_⟩)
                all_goals (apply RH.take (i := 14) (listed := (bm 19 16383)) (listed' := (bm 19 32767)); rfl; kernel_rfl; kernel_rfl; (apply Still.move; rfl); (first | exact hS | exact hS.tail | exact hS.sublist (by repeat (first | exact List.Sublist.refl _ | refine .cons_cons _ ?_ | refine .cons _ ?_))); rfl)
                all_goals (apply RH.take (i := 15) (listed := (bm 19 32767)) (listed' := (bm 19 65535)); rfl; kernel_rfl; kernel_rfl; (apply Still.extract; rfl; rfl); (first | exact hS | exact hS.tail | exact hS.sublist (by repeat (first | exact List.Sublist.refl _ | refine .cons_cons _ ?_ | refine .cons _ ?_))); rfl)
                all_goals (apply RH.take (i := 16) (listed := (bm 19 65535)) (listed' := (bm 19 131071)); rfl; kernel_rfl; kernel_rfl; (apply Still.extract; rfl; rfl); (first | exact hS | exact hS.tail | exact hS.sublist (by repeat (first | exact List.Sublist.refl _ | refine .cons_cons _ ?_ | refine .cons _ ?_))); rfl)
                all_goals (apply RH.take (i := 17) (listed := (bm 19 131071)) (listed' := (bm 19 262143)); rfl; kernel_rfl; kernel_rfl; (apply Still.assign; rfl); (first | exact hS | exact hS.tail | exact hS.sublist (by repeat (first | exact List.Sublist.refl _ | refine .cons_cons _ ?_ | refine .cons _ ?_))); rfl)
                all_goals (apply RH.take (i := 18) (listed := (bm 19 262143)) (listed' := (bm 19 524287)); rfl; kernel_rfl; kernel_rfl; (apply Still.assign; rfl); (first | exact hS | exact hS.tail | exact hS.sublist (by repeat (first | exact List.Sublist.refl _ | refine .cons_cons _ ?_ | refine .cons _ ?_))); rfl)
                all_goals (apply RH.done (listed := (bm 19 524287)); kernel_rfl)
                all_goals (exact ⟨_, (by focus ((repeat (first | exact .nil | refine .cons rfl ?_)); done)), hS.picks (by focus ((repeat (first | apply Picks.all | apply Picks.nil | (refine Picks.cons (by repeat (first | apply Take.head | apply Take.tail)) ?_) | apply Picks.drop)); done))⟩)
  · clear hS
    rintro ov w1 hS
    repeat' first
      | (apply RO.op; apply OP.callF; rfl; rfl; rfl; show Cl _ 13 _ _ _; exact heard_calls hhl (hS.take (by focus ((repeat (first | apply Has.head | apply Take.head | apply Put.head | apply Has.tail | apply Take.tail | apply Put.tail)); done))); clear hS; intro va w1 hS; obtain ⟨ρ1, o1, s1, hT⟩ := vec_freeze intL_length hS; clear hS; have hS := hT; clear hT; obtain ⟨pa, ca, rfl, ka1, ka2, _⟩ := s1.val)
      | (apply OP.callF; rfl; rfl; rfl; show Cl _ 13 _ _ _; exact heard_calls hhl (hS.take (by focus ((repeat (first | apply Has.head | apply Take.head | apply Put.head | apply Has.tail | apply Take.tail | apply Put.tail)); done))); clear hS; intro va w1 hS; obtain ⟨ρ1, o1, s1, hT⟩ := vec_freeze intL_length hS; clear hS; have hS := hT; clear hT; obtain ⟨pa, ca, rfl, ka1, ka2, _⟩ := s1.val; refine ⟨(by first | exact hS | exact hS.tail | exact hS.sublist (by repeat (first | exact List.Sublist.refl _ | refine .cons_cons _ ?_ | refine .cons _ ?_))), ?_⟩)
      | refine Run.seq ?_
      | refine Run.region ?_
      | (refine RO.split ?_ ?_ <;> intro hc <;> try (first | (exfalso; omega) | exact absurd rfl hc | exact Bool.noConfusion hc))
      | refine RO.nil ?_
      | refine RO.still (by exact Still.any) hS rfl ?_
      | (apply RO.op; apply OP.box hS; rfl; rfl; rfl; clear hS; intro b w1 hS)
      | (apply RO.op; apply OP.alloc hS; rfl; rfl; rfl; clear hS; intro b w1 hS)
      | (apply RO.op; apply OP.store hS; rfl; rfl; rfl; rfl; rfl; (focus ((repeat (first | apply Has.head | apply Take.head | apply Put.head | apply Has.tail | apply Take.tail | apply Put.tail)); done)); rfl; rfl; clear hS; intro w1 hS)
      | (apply RO.op; apply OP.buildSlice hS; rfl; rfl; (exact eqAuto); rfl; rfl; rfl; rfl; rfl; clear hS; intro b w1 hS)
      | (apply RO.op; apply OP.makeMap hS; rfl; clear hS; intro b w1 hS)
      | refine RO.yes rfl rfl ?_
      | refine RO.no rfl rfl rfl rfl ?_
      | refine RO.noUndef rfl rfl rfl ?_
      | refine RO.noNone rfl rfl rfl ?_
      | refine Run.cond_true rfl ?_
      | refine Run.cond_false rfl ?_
      | refine Run.skip ?_
      | refine Run.block ?_
      | refine Run.inBlock ?_
      | refine Run.exit rfl ?_
    · have h0 : op = 0 := by assumption
      have hz : ¬ (0 ≤ z1 ∧ z1 < heard.length) := by omega
      rw [one_heard_no (s := ⟨op, n, z1, z2, z3⟩) h0 hz]
      refine Run.ret Try.func24 rfl (.tmp rfl (.tmp rfl .nil)) ?_
      exact ⟨rfl, o1.back (hS.picks (by focus ((repeat (first | apply Picks.all | apply Picks.nil | (refine Picks.cons (by repeat (first | apply Take.head | apply Take.tail)) ?_) | apply Picks.drop)); done)))⟩
    · have h0 : op = 0 := by assumption
      have hz : ¬ (0 ≤ z1 ∧ z1 < heard.length) := by omega
      rw [one_heard_no (s := ⟨op, n, z1, z2, z3⟩) h0 hz]
      refine Run.ret Try.func24 rfl (.tmp rfl (.tmp rfl .nil)) ?_
      exact ⟨rfl, o1.back (hS.picks (by focus ((repeat (first | apply Picks.all | apply Picks.nil | (refine Picks.cons (by repeat (first | apply Take.head | apply Take.tail)) ?_) | apply Picks.drop)); done)))⟩
    · have h0 : op = 0 := by assumption
      have hz : 0 ≤ z1 ∧ z1 < heard.length := by omega
      have hzl : z1.toNat < heard.length := by omega
      obtain ⟨b1, o1', cs1, el1, f1, rfl, m1, hx1⟩ := s1.int hzl
      obtain ⟨_, hmd⟩ := mde_get (made := heard) (x := z1) (ahd_iff.2 hz)
      rw [← hmd] at hx1
      repeat' first
        | (refine RO.still (by apply Still.load; rfl; rfl; exact Rd.ro m1; exact hx1) hS rfl ?_)
        | refine Run.seq ?_
        | refine Run.region ?_
        | (refine RO.split ?_ ?_ <;> intro hc <;> try (first | (exfalso; omega) | exact absurd rfl hc | exact Bool.noConfusion hc))
        | refine RO.nil ?_
        | refine RO.still (by exact Still.any) hS rfl ?_
        | (apply RO.op; apply OP.box hS; rfl; rfl; rfl; clear hS; intro b w1 hS)
        | (apply RO.op; apply OP.alloc hS; rfl; rfl; rfl; clear hS; intro b w1 hS)
        | (apply RO.op; apply OP.store hS; rfl; rfl; rfl; rfl; rfl; (focus ((repeat (first | apply Has.head | apply Take.head | apply Put.head | apply Has.tail | apply Take.tail | apply Put.tail)); done)); rfl; rfl; clear hS; intro w1 hS)
        | (apply RO.op; apply OP.buildSlice hS; rfl; rfl; (exact eqAuto); rfl; rfl; rfl; rfl; rfl; clear hS; intro b w1 hS)
        | (apply RO.op; apply OP.makeMap hS; rfl; clear hS; intro b w1 hS)
        | refine RO.yes rfl rfl ?_
        | refine RO.no rfl rfl rfl rfl ?_
        | refine RO.noUndef rfl rfl rfl ?_
        | refine RO.noNone rfl rfl rfl ?_
        | refine Run.cond_true rfl ?_
        | refine Run.cond_false rfl ?_
        | refine Run.skip ?_
        | refine Run.block ?_
        | refine Run.inBlock ?_
        | refine Run.exit rfl ?_
      rw [one_heard_yes (s := ⟨op, n, z1, z2, z3⟩) hr h0 hz]
      refine Run.ret Try.func24 rfl (.tmp rfl (.tmp rfl .nil)) ?_
      exact ⟨rfl, o1.back (hS.picks (by focus ((repeat (first | apply Picks.all | apply Picks.nil | (refine Picks.cons (by repeat (first | apply Take.head | apply Take.tail)) ?_) | apply Picks.drop)); done)))⟩
    · have h0 : op = 1 := by assumption
      have hn1 : n < 1048576 := by have := hr.2.1; simp only at this; omega
      simp only at hn
      replace hS : St we ρ1 (Arena p lim L :: Row cb [.pointer (some ⟨p, 0, none⟩), .pointer (some ⟨kb, 0, none⟩), mv] 65 :: Vec 3 1 mv made.length (made.flatMap intL) :: KN kb p heard K :: Row b [.int .i64 op, .int .u64 n, .int .i64 z1, .int .i64 z2, .int .i64 z3] 41 :: F) _ := hS.picks (by focus ((repeat (first | apply Picks.all | apply Picks.nil | (refine Picks.cons (by repeat (first | apply Take.head | apply Take.tail)) ?_) | apply Picks.drop)); done))
      refine (Run.regionH_cut (fun _ : Unit => Arena p lim (mk lim L ⟨1, 4294967296 + n, 0, 0, 0⟩).1 :: Row cb [.pointer (some ⟨p, 0, none⟩), .pointer (some ⟨kb, 0, none⟩), mv] 65 :: Vec 3 1 mv made.length (made.flatMap intL) :: KN kb p heard K :: F)
        (fun _ => [(4, .int .i64 (mk lim L ⟨1, 4294967296 + n, 0, 0, 0⟩).2.1), (5, .int .i64 (mk lim L ⟨1, 4294967296 + n, 0, 0, 0⟩).2.2)])
        hS (.cons _ (List.Sublist.refl _)) (by rfl) (by rfl) (by rfl) ?_ ?_)
      · clear hS
        intro w1 hS
        refine RH.relist (listed' := bm 13 0) (by kernel_rfl) ?_
        all_goals (apply RH.take (i := 0) (listed := (bm 13 0)) (listed' := (bm 13 1)); rfl; kernel_rfl; kernel_rfl; (apply Still.move; rfl); (first | exact hS | exact hS.tail | exact hS.sublist (by repeat (first | exact List.Sublist.refl _ | refine .cons_cons _ ?_ | refine .cons _ ?_))); rfl)
        all_goals (apply RH.take (i := 1) (listed := (bm 13 1)) (listed' := (bm 13 3)); rfl; kernel_rfl; kernel_rfl; (first | (apply Still.nilCheck; rfl) | (apply Still.nilCheckF; rfl)); (first | exact hS | exact hS.tail | exact hS.sublist (by repeat (first | exact List.Sublist.refl _ | refine .cons_cons _ ?_ | refine .cons _ ?_))); rfl)
        all_goals (apply RH.take (i := 2) (listed := (bm 13 3)) (listed' := (bm 13 7)); rfl; kernel_rfl; kernel_rfl; (apply Still.fieldAddr; rfl; (exact eqAuto)); (first | exact hS | exact hS.tail | exact hS.sublist (by repeat (first | exact List.Sublist.refl _ | refine .cons_cons _ ?_ | refine .cons _ ?_))); rfl)
        all_goals (apply RH.take (i := 3) (listed := (bm 13 7)) (listed' := (bm 13 15)); rfl; kernel_rfl; kernel_rfl; (first | (apply Still.load; rfl; rfl; (exact Rd.any); (first | rfl | exact flat_get0 (by assumption) | exact flat_get1 (by assumption) | exact flat_get2 (by assumption) | exact flat_get3 (by assumption) | exact flat_get4 (by assumption))) | (apply Still.loadAgg; rfl; rfl; (exact eqAuto); (exact Rd.any); (first | exact flat_take (by assumption) | rfl); rfl)); (first | exact hS | exact hS.tail | exact hS.sublist (by repeat (first | exact List.Sublist.refl _ | refine .cons_cons _ ?_ | refine .cons _ ?_))); rfl)
        all_goals (apply RH.take (i := 4) (listed := (bm 13 15)) (listed' := (bm 13 31)); rfl; kernel_rfl; kernel_rfl; (apply Still.fieldAddr; rfl; (exact eqAuto)); (first | exact hS | exact hS.tail | exact hS.sublist (by repeat (first | exact List.Sublist.refl _ | refine .cons_cons _ ?_ | refine .cons _ ?_))); rfl)
        all_goals (apply RH.take (i := 5) (listed := (bm 13 31)) (listed' := (bm 13 63)); rfl; kernel_rfl; kernel_rfl; (first | (apply Still.load; rfl; rfl; (exact Rd.any); (first | rfl | exact flat_get0 (by assumption) | exact flat_get1 (by assumption) | exact flat_get2 (by assumption) | exact flat_get3 (by assumption) | exact flat_get4 (by assumption))) | (apply Still.loadAgg; rfl; rfl; (exact eqAuto); (exact Rd.any); (first | exact flat_take (by assumption) | rfl); rfl)); (first | exact hS | exact hS.tail | exact hS.sublist (by repeat (first | exact List.Sublist.refl _ | refine .cons_cons _ ?_ | refine .cons _ ?_))); rfl)
        all_goals (apply RH.take (i := 6) (listed := (bm 13 63)) (listed' := (bm 13 127)); rfl; kernel_rfl; kernel_rfl; (apply Still.add; rfl; rfl; (first | exact wrap_i64 (by omega) (by omega) | exact wrap_u64 (by omega) (by omega) | rfl)); (first | exact hS | exact hS.tail | exact hS.sublist (by repeat (first | exact List.Sublist.refl _ | refine .cons_cons _ ?_ | refine .cons _ ?_))); rfl)
        all_goals (try (refine RH.split ?_ ?_ <;> intro hc <;> try (first | (exfalso; omega) | exact absurd rfl hc | exact Bool.noConfusion hc)))
        all_goals (apply RH.take (i := 7) (listed := (bm 13 127)) (listed' := (bm 13 255)); rfl; kernel_rfl; kernel_rfl; (exact Still.any); (first | exact hS | exact hS.tail | exact hS.sublist (by repeat (first | exact List.Sublist.refl _ | refine .cons_cons _ ?_ | refine .cons _ ?_))); rfl)
        all_goals
          apply RH.all1 (i := 8) (listed := (bm 13 255))
          · kernel_rfl
          · apply RI.op (i := 8) (listed := (bm 13 255)) (listed' := (bm 13 511)); rfl; kernel_rfl
            all_goals try first
            | (apply OP.callF; rfl; rfl; rfl; show Cl _ 20 _ _ _; exact mk_calls (n := ⟨1, 4294967296 + n, 0, 0, 0⟩) hS; clear hS; rintro v w1 ⟨rfl, hS⟩; refine ⟨(by first | exact hS | exact hS.tail | exact hS.sublist (by repeat (first | exact List.Sublist.refl _ | refine .cons_cons _ ?_ | refine .cons _ ?_))), ?_⟩)
            | (refine OP.still (by exact Still.any) hS rfl ⟨(by first | exact hS | exact hS.tail | exact hS.sublist (by repeat (first | exact List.Sublist.refl _ | refine .cons_cons _ ?_ | refine .cons _ ?_))), ?_⟩)
            all_goals (apply RH.take (i := 9) (listed := (bm 13 511)) (listed' := (bm 13 1023)); rfl; kernel_rfl; kernel_rfl; (apply Still.extract; rfl; rfl); (first | exact hS | exact hS.tail | exact hS.sublist (by repeat (first | exact List.Sublist.refl _ | refine .cons_cons _ ?_ | refine .cons _ ?_))); rfl)
            all_goals (apply RH.take (i := 10) (listed := (bm 13 1023)) (listed' := (bm 13 2047)); rfl; kernel_rfl; kernel_rfl; (apply Still.extract; rfl; rfl); (first | exact hS | exact hS.tail | exact hS.sublist (by repeat (first | exact List.Sublist.refl _ | refine .cons_cons _ ?_ | refine .cons _ ?_))); rfl)
            all_goals (apply RH.take (i := 11) (listed := (bm 13 2047)) (listed' := (bm 13 4095)); rfl; kernel_rfl; kernel_rfl; (apply Still.assign; rfl); (first | exact hS | exact hS.tail | exact hS.sublist (by repeat (first | exact List.Sublist.refl _ | refine .cons_cons _ ?_ | refine .cons _ ?_))); rfl)
            all_goals (apply RH.take (i := 12) (listed := (bm 13 4095)) (listed' := (bm 13 8191)); rfl; kernel_rfl; kernel_rfl; (apply Still.assign; rfl); (first | exact hS | exact hS.tail | exact hS.sublist (by repeat (first | exact List.Sublist.refl _ | refine .cons_cons _ ?_ | refine .cons _ ?_))); rfl)
            all_goals (apply RH.done (listed := (bm 13 8191)); kernel_rfl)
            all_goals (exact ⟨(), (by focus ((repeat (first | exact .nil | refine .cons rfl ?_)); done)), hS.picks (by focus ((repeat (first | apply Picks.all | apply Picks.nil | (refine Picks.cons (by repeat (first | apply Take.head | apply Take.tail)) ?_) | apply Picks.drop)); done))⟩)
      · clear hS
        rintro ⟨⟩ w1 hS
        rw [one_mine (s := ⟨op, n, z1, z2, z3⟩) hr h0]
        repeat' first
          | refine Run.seq ?_
          | refine Run.region ?_
          | (refine RO.split ?_ ?_ <;> intro hc <;> try (first | (exfalso; omega) | exact absurd rfl hc | exact Bool.noConfusion hc))
          | refine RO.nil ?_
          | refine RO.still (by exact Still.any) hS rfl ?_
          | (apply RO.op; apply OP.box hS; rfl; rfl; rfl; clear hS; intro b w1 hS)
          | (apply RO.op; apply OP.alloc hS; rfl; rfl; rfl; clear hS; intro b w1 hS)
          | (apply RO.op; apply OP.store hS; rfl; rfl; rfl; rfl; rfl; (focus ((repeat (first | apply Has.head | apply Take.head | apply Put.head | apply Has.tail | apply Take.tail | apply Put.tail)); done)); rfl; rfl; clear hS; intro w1 hS)
          | (apply RO.op; apply OP.buildSlice hS; rfl; rfl; (exact eqAuto); rfl; rfl; rfl; rfl; rfl; clear hS; intro b w1 hS)
          | (apply RO.op; apply OP.makeMap hS; rfl; clear hS; intro b w1 hS)
          | refine RO.yes rfl rfl ?_
          | refine RO.no rfl rfl rfl rfl ?_
          | refine RO.noUndef rfl rfl rfl ?_
          | refine RO.noNone rfl rfl rfl ?_
          | refine Run.cond_true rfl ?_
          | refine Run.cond_false rfl ?_
          | refine Run.skip ?_
          | refine Run.block ?_
          | refine Run.inBlock ?_
          | refine Run.exit rfl ?_
        refine Run.ret Try.func24 rfl (.tmp rfl (.tmp rfl .nil)) ?_
        exact ⟨rfl, o1.back (hS.picks (by focus ((repeat (first | apply Picks.all | apply Picks.nil | (refine Picks.cons (by repeat (first | apply Take.head | apply Take.tail)) ?_) | apply Picks.drop)); done)))⟩
    · have h0 : op = 13 := by assumption
      rw [one_none (s := ⟨op, n, z1, z2, z3⟩) hr h0]
      refine Run.ret Try.func24 rfl (.tmp rfl (.tmp rfl .nil)) ?_
      exact ⟨rfl, o1.back (hS.picks (by focus ((repeat (first | apply Picks.all | apply Picks.nil | (refine Picks.cons (by repeat (first | apply Take.head | apply Take.tail)) ?_) | apply Picks.drop)); done)))⟩
    · have hop3 : op = 10 ∨ op = 11 ∨ op = 12 := by omega
      rw [one_taken (s := ⟨op, n, z1, z2, z3⟩) hr hop3 hall]
      have hne : 0 < ((argsS ⟨op, n, z1, z2, z3⟩).map (mde made)).length ∧ (op = 12 → 2 ≤ ((argsS ⟨op, n, z1, z2, z3⟩).map (mde made)).length) := by
        rw [List.length_map, hlen]
        rcases hop3 with h | h | h <;> simp [uses, h]
      obtain ⟨_, ⟨_, hnil, _⟩ | ⟨g0, cap0, sp, rfl, c1, c2, c3, hT⟩⟩ := vec_open (hS.take (A := Vec 3 1 ov ((argsS ⟨op, n, z1, z2, z3⟩).map (mde made)).length (((argsS ⟨op, n, z1, z2, z3⟩).map (mde made)).flatMap intL)) (by focus ((repeat (first | apply Has.head | apply Take.head | apply Put.head | apply Has.tail | apply Take.tail | apply Put.tail)); done)))
      · omega
      clear hS
      have hS := hT
      clear hT
      have hcell : ∀ (j : Nat) (y : Int), (argsS ⟨op, n, z1, z2, z3⟩)[j]? = some y → (((argsS ⟨op, n, z1, z2, z3⟩).map (mde made)).flatMap intL ++ sp)[j]? = some (.int .i64 (mde made y)) := by
        intro j y h
        have hj := (List.getElem?_eq_some_iff.1 h).1
        rw [ints_flat, List.getElem?_append_left (by rw [List.length_map, List.length_map]; exact hj), List.getElem?_map, List.getElem?_map, h]
        rfl
      have l0 := hcell 0 z1 (by rcases hop3 with h | h | h <;> simp [argsS, uses, h])
      have l1 : op = 12 → _ := fun h12 => hcell 1 z2 (by simp [argsS, uses, h12])
      repeat' first
        | (apply RO.op; apply OP.callF; rfl; rfl; rfl; show Cl _ 37 _ _ _; refine taken_calls (x := mde made z1) (y := mde made z2) (cells := ((argsS ⟨op, n, z1, z2, z3⟩).map (mde made)).flatMap intL ++ sp) hop3 hne.1 hne.2 ?_ l0 l1 (hS.take2 (by focus ((repeat (first | apply Has.head | apply Take.head | apply Put.head | apply Has.tail | apply Take.tail | apply Put.tail)); done)) (by focus ((repeat (first | apply Has.head | apply Take.head | apply Put.head | apply Has.tail | apply Take.tail | apply Put.tail)); done))); (exact Rd.any); clear hS; rintro v w1 ⟨rfl, hS⟩)
        | refine Run.seq ?_
        | refine Run.region ?_
        | (refine RO.split ?_ ?_ <;> intro hc <;> try (first | (exfalso; omega) | exact absurd rfl hc | exact Bool.noConfusion hc))
        | refine RO.nil ?_
        | refine RO.still (by exact Still.any) hS rfl ?_
        | (apply RO.op; apply OP.box hS; rfl; rfl; rfl; clear hS; intro b w1 hS)
        | (apply RO.op; apply OP.alloc hS; rfl; rfl; rfl; clear hS; intro b w1 hS)
        | (apply RO.op; apply OP.store hS; rfl; rfl; rfl; rfl; rfl; (focus ((repeat (first | apply Has.head | apply Take.head | apply Put.head | apply Has.tail | apply Take.tail | apply Put.tail)); done)); rfl; rfl; clear hS; intro w1 hS)
        | (apply RO.op; apply OP.buildSlice hS; rfl; rfl; (exact eqAuto); rfl; rfl; rfl; rfl; rfl; clear hS; intro b w1 hS)
        | (apply RO.op; apply OP.makeMap hS; rfl; clear hS; intro b w1 hS)
        | refine RO.yes rfl rfl ?_
        | refine RO.no rfl rfl rfl rfl ?_
        | refine RO.noUndef rfl rfl rfl ?_
        | refine RO.noNone rfl rfl rfl ?_
        | refine Run.cond_true rfl ?_
        | refine Run.cond_false rfl ?_
        | refine Run.skip ?_
        | refine Run.block ?_
        | refine Run.inBlock ?_
        | refine Run.exit rfl ?_
      refine Run.ret Try.func24 rfl (.tmp rfl (.tmp rfl .nil)) ?_
      exact ⟨rfl, o1.back (hS.picks (by focus ((repeat (first | apply Picks.all | apply Picks.nil | (refine Picks.cons (by repeat (first | apply Take.head | apply Take.tail)) ?_) | apply Picks.drop)); done)))⟩
    · by_cases h3 : op = 3
      · rw [one_share (s := ⟨op, n, z1, z2, z3⟩) hr h3 hall]
        have hne : 2 ≤ ((argsS ⟨op, n, z1, z2, z3⟩).map (mde made)).length := by
          rw [List.length_map, hlen]
          simp [uses, h3]
        obtain ⟨_, ⟨_, hnil, _⟩ | ⟨g0, cap0, sp, rfl, c1, c2, c3, hT⟩⟩ := vec_open (hS.take (A := Vec 3 1 ov ((argsS ⟨op, n, z1, z2, z3⟩).map (mde made)).length (((argsS ⟨op, n, z1, z2, z3⟩).map (mde made)).flatMap intL)) (by focus ((repeat (first | apply Has.head | apply Take.head | apply Put.head | apply Has.tail | apply Take.tail | apply Put.tail)); done)))
        · omega
        clear hS
        have hS := hT
        clear hT
        have hcell : ∀ (j : Nat) (y : Int), (argsS ⟨op, n, z1, z2, z3⟩)[j]? = some y → (((argsS ⟨op, n, z1, z2, z3⟩).map (mde made)).flatMap intL ++ sp)[j]? = some (.int .i64 (mde made y)) := by
          intro j y h
          have hj := (List.getElem?_eq_some_iff.1 h).1
          rw [ints_flat, List.getElem?_append_left (by rw [List.length_map, List.length_map]; exact hj), List.getElem?_map, List.getElem?_map, h]
          rfl
        have l0 := hcell 0 z1 (by simp [argsS, uses, h3])
        have l1 := hcell 1 z2 (by simp [argsS, uses, h3])
        repeat' first
          | (apply RO.op; apply OP.callF; rfl; rfl; rfl; show Cl _ 38 _ _ _; refine built_share (s := ⟨op, n, z1, z2, z3⟩) (x := mde made z1) (y := mde made z2) (cells := ((argsS ⟨op, n, z1, z2, z3⟩).map (mde made)).flatMap intL ++ sp) h3 hne ?_ l0 l1 (hS.take2 (by focus ((repeat (first | apply Has.head | apply Take.head | apply Put.head | apply Has.tail | apply Take.tail | apply Put.tail)); done)) (by focus ((repeat (first | apply Has.head | apply Take.head | apply Put.head | apply Has.tail | apply Take.tail | apply Put.tail)); done))); (exact Rd.any); clear hS; rintro v w1 ⟨rfl, hS⟩)
          | refine Run.seq ?_
          | refine Run.region ?_
          | (refine RO.split ?_ ?_ <;> intro hc <;> try (first | (exfalso; omega) | exact absurd rfl hc | exact Bool.noConfusion hc))
          | refine RO.nil ?_
          | refine RO.still (by exact Still.any) hS rfl ?_
          | (apply RO.op; apply OP.box hS; rfl; rfl; rfl; clear hS; intro b w1 hS)
          | (apply RO.op; apply OP.alloc hS; rfl; rfl; rfl; clear hS; intro b w1 hS)
          | (apply RO.op; apply OP.store hS; rfl; rfl; rfl; rfl; rfl; (focus ((repeat (first | apply Has.head | apply Take.head | apply Put.head | apply Has.tail | apply Take.tail | apply Put.tail)); done)); rfl; rfl; clear hS; intro w1 hS)
          | (apply RO.op; apply OP.buildSlice hS; rfl; rfl; (exact eqAuto); rfl; rfl; rfl; rfl; rfl; clear hS; intro b w1 hS)
          | (apply RO.op; apply OP.makeMap hS; rfl; clear hS; intro b w1 hS)
          | refine RO.yes rfl rfl ?_
          | refine RO.no rfl rfl rfl rfl ?_
          | refine RO.noUndef rfl rfl rfl ?_
          | refine RO.noNone rfl rfl rfl ?_
          | refine Run.cond_true rfl ?_
          | refine Run.cond_false rfl ?_
          | refine Run.skip ?_
          | refine Run.block ?_
          | refine Run.inBlock ?_
          | refine Run.exit rfl ?_
        refine Run.ret Try.func24 rfl (.tmp rfl (.tmp rfl .nil)) ?_
        exact ⟨rfl, o1.back (hS.picks (by focus ((repeat (first | apply Picks.all | apply Picks.nil | (refine Picks.cons (by repeat (first | apply Take.head | apply Take.tail)) ?_) | apply Picks.drop)); done)))⟩
      · have hop4 := hr.1.2.2
        simp only at hop4
        have hop6 : op = 2 ∨ op = 5 ∨ op = 6 ∨ op = 7 ∨ op = 8 ∨ op = 9 := by omega
        rw [one_built (s := ⟨op, n, z1, z2, z3⟩) g hr hop6 hall hmh]
        have hp0 := pad_get (s := ⟨op, n, z1, z2, z3⟩) (made := made) 0 (by omega)
        have hp1 := pad_get (s := ⟨op, n, z1, z2, z3⟩) (made := made) 1 (by omega)
        have hp2 := pad_get (s := ⟨op, n, z1, z2, z3⟩) (made := made) 2 (by omega)
        have hxl : ((argsS ⟨op, n, z1, z2, z3⟩).map (mde made)).length ≤ 3 := by rw [List.length_map]; exact hal
        repeat' first
          | (apply RO.op; apply OP.callF; rfl; rfl; rfl; show Cl _ 38 _ _ _; refine built_mk (s := ⟨op, n, z1, z2, z3⟩) (xs := (argsS ⟨op, n, z1, z2, z3⟩).map (mde made)) h3 hxl hp0 hp1 hp2 (tke3 hS (by focus ((repeat (first | apply Has.head | apply Take.head | apply Put.head | apply Has.tail | apply Take.tail | apply Put.tail)); done)) (by focus ((repeat (first | apply Has.head | apply Take.head | apply Put.head | apply Has.tail | apply Take.tail | apply Put.tail)); done)) (by focus ((repeat (first | apply Has.head | apply Take.head | apply Put.head | apply Has.tail | apply Take.tail | apply Put.tail)); done))); clear hS; rintro v w1 ⟨rfl, hS⟩)
          | refine Run.seq ?_
          | refine Run.region ?_
          | (refine RO.split ?_ ?_ <;> intro hc <;> try (first | (exfalso; omega) | exact absurd rfl hc | exact Bool.noConfusion hc))
          | refine RO.nil ?_
          | refine RO.still (by exact Still.any) hS rfl ?_
          | (apply RO.op; apply OP.box hS; rfl; rfl; rfl; clear hS; intro b w1 hS)
          | (apply RO.op; apply OP.alloc hS; rfl; rfl; rfl; clear hS; intro b w1 hS)
          | (apply RO.op; apply OP.store hS; rfl; rfl; rfl; rfl; rfl; (focus ((repeat (first | apply Has.head | apply Take.head | apply Put.head | apply Has.tail | apply Take.tail | apply Put.tail)); done)); rfl; rfl; clear hS; intro w1 hS)
          | (apply RO.op; apply OP.buildSlice hS; rfl; rfl; (exact eqAuto); rfl; rfl; rfl; rfl; rfl; clear hS; intro b w1 hS)
          | (apply RO.op; apply OP.makeMap hS; rfl; clear hS; intro b w1 hS)
          | refine RO.yes rfl rfl ?_
          | refine RO.no rfl rfl rfl rfl ?_
          | refine RO.noUndef rfl rfl rfl ?_
          | refine RO.noNone rfl rfl rfl ?_
          | refine Run.cond_true rfl ?_
          | refine Run.cond_false rfl ?_
          | refine Run.skip ?_
          | refine Run.block ?_
          | refine Run.inBlock ?_
          | refine Run.exit rfl ?_
        refine Run.ret Try.func24 rfl (.tmp rfl (.tmp rfl .nil)) ?_
        exact ⟨rfl, o1.back (hS.picks (by focus ((repeat (first | apply Picks.all | apply Picks.nil | (refine Picks.cons (by repeat (first | apply Take.head | apply Take.tail)) ?_) | apply Picks.drop)); done)))⟩

theorem step_calls {s : Stp} (g : Good lim L) (hn : 0 ≤ s.n ∧ s.n ≤ 18446744073709551615) (hml : made.length ≤ 200000) (hhl : heard.length ≤ 200000) (hmh : AllHas L made)
    (hS : St we ρ (Arena p lim L :: Row cb [.pointer (some ⟨p, 0, none⟩), .pointer (some ⟨kb, 0, none⟩), mv] 65 :: Vec 3 1 mv made.length (made.flatMap intL) :: KN kb p heard K :: F) w) :
    Cl Try.prog 24 [.pointer (some ⟨cb, 0, none⟩), .agg (stpL s).toArray] w fun v w' => v = .tuple #[.int .i64 (oneS lim L heard made s).2.1, .int .i64 (oneS lim L heard made s).2.2] ∧
      St we ρ (Arena p lim (oneS lim L heard made s).1 :: Row cb [.pointer (some ⟨p, 0, none⟩), .pointer (some ⟨kb, 0, none⟩), mv] 65 :: Vec 3 1 mv made.length (made.flatMap intL) :: KN kb p heard K :: F) w' := by
  by_cases hr : RightP s
  · cases hall : (argsS s).all (ahd made) with
    | true => exact step_yes g hn hml hhl hmh hr hall hS
    | false =>
      rw [one_used hall]
      exact step_no hn hml hhl (.inr ⟨hr, hall⟩) hS
  · rw [one_wrong hr]
    exact step_no hn hml hhl (.inl hr) hS
end
end Go.Proofs.Ythejfodjielahaa
