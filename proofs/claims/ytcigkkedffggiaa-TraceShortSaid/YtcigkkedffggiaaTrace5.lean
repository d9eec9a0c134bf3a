/-
  The laws' helper for the layer of traces: an arena, the document's, what is known, and what can be made by the document.
-/
import Derived.Test.YtcigkkedffggiaaTrace4
namespace Go.Proofs.Ytcigkkedffggiaa
set_option maxRecDepth 8000
set_option linter.unusedSimpArgs false
set_option linter.unusedVariables false
open Go Go.RowKit

section
variable {we w : World} {ρ : List (Nat × Obj)} {σ F : List HP} {kb p lim lim' r cap : Nat} {L : List Nd} {K : Int → Bool}

set_option maxHeartbeats 8000000 in
theorem trlearned_calls {l : List Nd} {refs : List Int} {vl vr : Value} (hll : l.length ≤ 40) (hrl : refs.length ≤ 30) (hl : Nds ρ vl l) (hr : Sl ρ intL 1 vr refs) (hL : builtUp (room 100) l = L) (hK : learnAll L refs (fun _ => false) = K) (hS : St we ρ σ w) :
    Cl Try.prog 22 [vl, vr] w fun v w' => ∃ kb p r c spare gk ck sp gc, v = .tuple #[.pointer (some ⟨p, 0, none⟩), raV (room 100) r L.length c, .pointer (some ⟨kb, 0, none⟩), .slice (some ⟨gk, 0, none⟩) L.length ck, .slice (some ⟨gc, 0, none⟩) L.length L.length] ∧
      St we ρ (KN kb p (refs.filter (has L)) K :: Arena p (room 100) L :: Row r (flat L ++ spare) 58 :: Row gk (boolsL L K ++ sp) 4 :: Row gc (boolsL L (can L K)) 4 :: σ) w' := by
  obtain ⟨p1, c1, rfl, h1, h2, _⟩ := hr.val
  unfold maxLen at h2
  have g := builtUp_good (limit := 100) l
  rw [hL] at g
  have hh := learnAll_has g (K := fun _ => false) (by simp)
  have hlim := g.lim
  have hlen := g.len
  refine Run.calls2 (n := 50) Try.func22 rfl rfl rfl ?_
  have tok : True := trivial
  repeat' first
    | (have _ := tok; clear tok; apply RO.op; apply OP.alloc hS; rfl; rfl; rfl; clear hS; intro b5 w1 hS)
    | (apply RO.op; apply OP.callF; rfl; rfl; rfl; show Cl _ 16 _ _ _; exact built_calls hll hl hS; clear hS; rintro v w1 ⟨p, a, rfl, hS⟩; rw [hL] at hS; obtain ⟨r, c, spare, rfl, -, g2, g3, g4, hS⟩ := ra_open (hS.take (.tail .head)))
    | (apply OP.callF; rfl; rfl; rfl; show Cl _ 16 _ _ _; exact built_calls hll hl hS; clear hS; rintro v w1 ⟨p, a, rfl, hS⟩; rw [hL] at hS; obtain ⟨r, c, spare, rfl, -, g2, g3, g4, hS⟩ := ra_open (hS.take (.tail .head)); refine ⟨(by first | exact hS | exact hS.tail | exact hS.sublist (by repeat (first | exact List.Sublist.refl _ | refine .cons_cons _ ?_ | refine .cons _ ?_))), ?_⟩)
    | (apply RO.op; apply OP.callF; rfl; rfl; rfl; show Cl _ 39 _ _ _; exact knew_calls hS; clear hS; rintro v w1 ⟨kb, rfl, hS⟩)
    | (apply OP.callF; rfl; rfl; rfl; show Cl _ 39 _ _ _; exact knew_calls hS; clear hS; rintro v w1 ⟨kb, rfl, hS⟩; refine ⟨(by first | exact hS | exact hS.tail | exact hS.sublist (by repeat (first | exact List.Sublist.refl _ | refine .cons_cons _ ?_ | refine .cons _ ?_))), ?_⟩)
    | refine Run.seq ?_
    | refine Run.region ?_
    | (refine RO.split ?_ ?_ <;> intro hc <;> try (first | (exfalso; omega) | exact absurd rfl hc | exact Bool.noConfusion hc))
    | refine RO.nil ?_
    | refine RO.still (by exact Still.any) hS rfl ?_
    | (apply RO.op; apply OP.box hS; rfl; rfl; rfl; clear hS; intro b w1 hS)
    | (apply RO.op; apply OP.alloc hS; rfl; rfl; rfl; clear hS; intro b w1 hS)
    | (apply RO.op; apply OP.store hS; rfl; rfl; rfl; rfl; rfl; (focus ((repeat (first | apply Has.head | apply Take.head | apply Put.head | apply Has.tail | apply Take.tail | apply Put.tail)); done)); rfl; rfl; clear hS; intro w1 hS)
    | (apply RO.op; apply OP.buildSlice hS; rfl; rfl; (exact eqAuto); rfl; rfl; rfl; rfl; rfl; clear hS; intro b w1 hS)
    | (apply RO.op; apply OP.makeMap hS; rfl; clear hS; intro b w1 hS)
    | refine RO.yes rfl rfl ?_
    | refine RO.no rfl rfl rfl rfl ?_
    | refine RO.noUndef rfl rfl rfl ?_
    | refine RO.noNone rfl rfl rfl ?_
    | refine Run.cond_true rfl ?_
    | refine Run.cond_false rfl ?_
    | refine Run.skip ?_
    | refine Run.block ?_
    | refine Run.inBlock ?_
    | refine Run.exit rfl ?_
  obtain ⟨b0, hb0⟩ : ∃ x, x = b := ⟨b, rfl⟩
  subst hb0
  refine Run.while (fun i : Nat => [(1, .slice p1 refs.length c1), (5, .pointer (some ⟨b5, 0, none⟩)), (9, .pointer (some ⟨p, 0, none⟩)), (10, .pointer (some ⟨b0, 0, none⟩)), (12, .pointer (some ⟨kb, 0, none⟩)), (30, .slice p1 refs.length c1), (31, .int .i64 refs.length), (32, .int .i64 i)])
    (fun i w => i ≤ refs.length ∧ St we ρ (KN kb p ((refs.take i).filter (has L)) (learnAll L (refs.take i) fun _ => false) :: Arena p (room 100) L :: Row r (flat L ++ spare) 58 :: Row b0 [.int .i64 (room 100), .slice (some ⟨r, 0, none⟩) L.length c] 48 :: Row b5 [.int .i64 0, .slice none 0 0] 48 :: σ) w) (fun i => refs.length - i) 0
    ⟨by omega, by exact hS.picks (by focus ((repeat (first | apply Picks.all | apply Picks.nil | (refine Picks.cons (by repeat (first | apply Take.head | apply Take.tail)) ?_) | apply Picks.drop)); done))⟩ (by focus ((repeat (first | exact .nil | refine .cons rfl ?_)); done)) ?_
  clear hS
  rintro i w ⟨hi, hS⟩ ih
  by_cases hlt : i < refs.length
  · obtain ⟨b1, o1, cs1, e1, f1, rfl, m1, hx1⟩ := hr.int hlt
    have e0 : learnAll L (refs.take (i + 1)) (fun _ => false) = if has L refs[i] = true then cl L (ins (learnAll L (refs.take i) fun _ => false) refs[i]) else learnAll L (refs.take i) fun _ => false := by
      rw [List.take_succ_eq_append_getElem hlt, learnAll_snoc]
    have e2 := filter_snoc (p := has L) hlt
    have hhas := hh (refs.take i)
    have hfl : ((refs.take i).filter (has L)).length ≤ 100000 := by
      have := List.length_filter_le (has L) (refs.take i)
      rw [List.length_take] at this
      omega
    generalize learnAll L (refs.take i) (fun _ => false) = K0 at hS e0 hhas
    generalize (refs.take i).filter (has L) = hd at hS e2 hfl
    generalize refs[i] = x at hx1 e0 e2
    cases hx : has L x with
    | false =>
      rw [if_neg (by rw [hx]; simp)] at e0 e2
      rw [List.append_nil] at e2
      repeat' first
        | (refine RO.still (by apply Still.load; rfl; rfl; exact Rd.ro m1; exact hx1) hS rfl ?_)
        | (apply RO.op; apply OP.callF; rfl; rfl; rfl; show Cl _ 28 _ _ _; exact learn_no hhas hfl hx (hS.take2 (by focus ((repeat (first | apply Has.head | apply Take.head | apply Put.head | apply Has.tail | apply Take.tail | apply Put.tail)); done)) (by focus ((repeat (first | apply Has.head | apply Take.head | apply Put.head | apply Has.tail | apply Take.tail | apply Put.tail)); done))); clear hS; rintro v w1 ⟨rfl, hS⟩)
        | (apply OP.callF; rfl; rfl; rfl; show Cl _ 28 _ _ _; exact learn_no hhas hfl hx (hS.take2 (by focus ((repeat (first | apply Has.head | apply Take.head | apply Put.head | apply Has.tail | apply Take.tail | apply Put.tail)); done)) (by focus ((repeat (first | apply Has.head | apply Take.head | apply Put.head | apply Has.tail | apply Take.tail | apply Put.tail)); done))); clear hS; rintro v w1 ⟨rfl, hS⟩; refine ⟨(by first | exact hS | exact hS.tail | exact hS.sublist (by repeat (first | exact List.Sublist.refl _ | refine .cons_cons _ ?_ | refine .cons _ ?_))), ?_⟩)
        | refine Run.seq ?_
        | refine Run.region ?_
        | (refine RO.split ?_ ?_ <;> intro hc <;> try (first | (exfalso; omega) | exact absurd rfl hc | exact Bool.noConfusion hc))
        | refine RO.nil ?_
        | refine RO.still (by exact Still.any) hS rfl ?_
        | (apply RO.op; apply OP.box hS; rfl; rfl; rfl; clear hS; intro b w1 hS)
        | (apply RO.op; apply OP.alloc hS; rfl; rfl; rfl; clear hS; intro b w1 hS)
        | (apply RO.op; apply OP.store hS; rfl; rfl; rfl; rfl; rfl; (focus ((repeat (first | apply Has.head | apply Take.head | apply Put.head | apply Has.tail | apply Take.tail | apply Put.tail)); done)); rfl; rfl; clear hS; intro w1 hS)
        | (apply RO.op; apply OP.buildSlice hS; rfl; rfl; (exact eqAuto); rfl; rfl; rfl; rfl; rfl; clear hS; intro b w1 hS)
        | (apply RO.op; apply OP.makeMap hS; rfl; clear hS; intro b w1 hS)
        | refine RO.yes rfl rfl ?_
        | refine RO.no rfl rfl rfl rfl ?_
        | refine RO.noUndef rfl rfl rfl ?_
        | refine RO.noNone rfl rfl rfl ?_
        | refine Run.cond_true rfl ?_
        | refine Run.cond_false rfl ?_
        | refine Run.skip ?_
        | refine Run.block ?_
        | refine Run.inBlock ?_
        | refine Run.exit rfl ?_
      refine Run.weaken (by focus ((repeat (first | exact .nil | refine .cons rfl ?_)); done)) (ih (i + 1) _ ⟨by omega, ?_⟩ (by omega))
      rw [e0, e2]
      exact hS.picks (by focus ((repeat (first | apply Picks.all | apply Picks.nil | (refine Picks.cons (by repeat (first | apply Take.head | apply Take.tail)) ?_) | apply Picks.drop)); done))
    | true =>
      rw [if_pos hx] at e0 e2
      repeat' first
        | (refine RO.still (by apply Still.load; rfl; rfl; exact Rd.ro m1; exact hx1) hS rfl ?_)
        | (apply RO.op; apply OP.callF; rfl; rfl; rfl; show Cl _ 28 _ _ _; exact learn_yes hhas hfl hx (hS.take2 (by focus ((repeat (first | apply Has.head | apply Take.head | apply Put.head | apply Has.tail | apply Take.tail | apply Put.tail)); done)) (by focus ((repeat (first | apply Has.head | apply Take.head | apply Put.head | apply Has.tail | apply Take.tail | apply Put.tail)); done))); clear hS; rintro v w1 ⟨rfl, hS⟩)
        | (apply OP.callF; rfl; rfl; rfl; show Cl _ 28 _ _ _; exact learn_yes hhas hfl hx (hS.take2 (by focus ((repeat (first | apply Has.head | apply Take.head | apply Put.head | apply Has.tail | apply Take.tail | apply Put.tail)); done)) (by focus ((repeat (first | apply Has.head | apply Take.head | apply Put.head | apply Has.tail | apply Take.tail | apply Put.tail)); done))); clear hS; rintro v w1 ⟨rfl, hS⟩; refine ⟨(by first | exact hS | exact hS.tail | exact hS.sublist (by repeat (first | exact List.Sublist.refl _ | refine .cons_cons _ ?_ | refine .cons _ ?_))), ?_⟩)
        | refine Run.seq ?_
        | refine Run.region ?_
        | (refine RO.split ?_ ?_ <;> intro hc <;> try (first | (exfalso; omega) | exact absurd rfl hc | exact Bool.noConfusion hc))
        | refine RO.nil ?_
        | refine RO.still (by exact Still.any) hS rfl ?_
        | (apply RO.op; apply OP.box hS; rfl; rfl; rfl; clear hS; intro b w1 hS)
        | (apply RO.op; apply OP.alloc hS; rfl; rfl; rfl; clear hS; intro b w1 hS)
        | (apply RO.op; apply OP.store hS; rfl; rfl; rfl; rfl; rfl; (focus ((repeat (first | apply Has.head | apply Take.head | apply Put.head | apply Has.tail | apply Take.tail | apply Put.tail)); done)); rfl; rfl; clear hS; intro w1 hS)
        | (apply RO.op; apply OP.buildSlice hS; rfl; rfl; (exact eqAuto); rfl; rfl; rfl; rfl; rfl; clear hS; intro b w1 hS)
        | (apply RO.op; apply OP.makeMap hS; rfl; clear hS; intro b w1 hS)
        | refine RO.yes rfl rfl ?_
        | refine RO.no rfl rfl rfl rfl ?_
        | refine RO.noUndef rfl rfl rfl ?_
        | refine RO.noNone rfl rfl rfl ?_
        | refine Run.cond_true rfl ?_
        | refine Run.cond_false rfl ?_
        | refine Run.skip ?_
        | refine Run.block ?_
        | refine Run.inBlock ?_
        | refine Run.exit rfl ?_
      refine Run.weaken (by focus ((repeat (first | exact .nil | refine .cons rfl ?_)); done)) (ih (i + 1) _ ⟨by omega, ?_⟩ (by omega))
      rw [e0, e2]
      exact hS.picks (by focus ((repeat (first | apply Picks.all | apply Picks.nil | (refine Picks.cons (by repeat (first | apply Take.head | apply Take.tail)) ?_) | apply Picks.drop)); done))
  · obtain rfl : i = refs.length := by omega
    rw [List.take_of_length_le (Nat.le_refl _), hK] at hS
    repeat' first
      | (apply RO.op; apply OP.callF; rfl; rfl; rfl; apply refLearn (refs := refs) g hr hS; (exact Rd.any); clear hS; rintro v w1 ⟨gk, ck, sp, rfl, hS⟩; rw [hK] at hS)
      | refine Run.seq ?_
      | refine Run.region ?_
      | (refine RO.split ?_ ?_ <;> intro hc <;> try (first | (exfalso; omega) | exact absurd rfl hc | exact Bool.noConfusion hc))
      | refine RO.nil ?_
      | refine RO.still (by exact Still.any) hS rfl ?_
      | (apply RO.op; apply OP.box hS; rfl; rfl; rfl; clear hS; intro b w1 hS)
      | (apply RO.op; apply OP.alloc hS; rfl; rfl; rfl; clear hS; intro b w1 hS)
      | (apply RO.op; apply OP.store hS; rfl; rfl; rfl; rfl; rfl; (focus ((repeat (first | apply Has.head | apply Take.head | apply Put.head | apply Has.tail | apply Take.tail | apply Put.tail)); done)); rfl; rfl; clear hS; intro w1 hS)
      | (apply RO.op; apply OP.buildSlice hS; rfl; rfl; (exact eqAuto); rfl; rfl; rfl; rfl; rfl; clear hS; intro b w1 hS)
      | (apply RO.op; apply OP.makeMap hS; rfl; clear hS; intro b w1 hS)
      | refine RO.yes rfl rfl ?_
      | refine RO.no rfl rfl rfl rfl ?_
      | refine RO.noUndef rfl rfl rfl ?_
      | refine RO.noNone rfl rfl rfl ?_
      | refine Run.cond_true rfl ?_
      | refine Run.cond_false rfl ?_
      | refine Run.skip ?_
      | refine Run.block ?_
      | refine Run.inBlock ?_
      | refine Run.exit rfl ?_
    replace hS : St we ρ (KN kb p (refs.filter (has L)) K :: Arena p (room 100) L :: Row r (flat L ++ spare) 58 :: Row b0 [.int .i64 (room 100), .slice (some ⟨r, 0, none⟩) L.length c] 48 :: Row gk (boolsL L K ++ sp) 4 :: Row b5 [.int .i64 0, .slice none 0 0] 48 :: σ) _ := hS.picks (by focus ((repeat (first | apply Picks.all | apply Picks.nil | (refine Picks.cons (by repeat (first | apply Take.head | apply Take.tail)) ?_) | apply Picks.drop)); done))
    refine (Run.regionH_cut (fun gc : Nat => Row b5 [.int .i64 (room 100), .slice (some ⟨r, 0, none⟩) L.length c] 48 :: Row gc (boolsL L (can L K)) 4 ::
        KN kb p (refs.filter (has L)) K :: Arena p (room 100) L :: Row r (flat L ++ spare) 58 :: Row gk (boolsL L K ++ sp) 4 :: σ)
      (fun gc => [(4, .pointer (some ⟨p, 0, none⟩)), (5, .pointer (some ⟨b5, 0, none⟩)), (6, .pointer (some ⟨kb, 0, none⟩)), (7, .slice (some ⟨gk, 0, none⟩) L.length ck), (8, .slice (some ⟨gc, 0, none⟩) L.length L.length)])
      hS (.cons_cons _ (.cons_cons _ (.cons_cons _ (.cons_cons _ (.cons_cons _ (.cons _ (List.Sublist.refl _))))))) (by rfl) (by rfl) (by rfl) ?_ ?_)
    · clear hS
      intro w1 hS
      refine RH.relist (listed' := bm 12 0) (by kernel_rfl) ?_
      all_goals (apply RH.take (i := 0) (listed := (bm 12 0)) (listed' := (bm 12 1)); rfl; kernel_rfl; kernel_rfl; (apply Still.move; rfl); (first | exact hS | exact hS.tail | exact hS.sublist (by repeat (first | exact List.Sublist.refl _ | refine .cons_cons _ ?_ | refine .cons _ ?_))); rfl)
      all_goals (apply RH.take (i := 1) (listed := (bm 12 1)) (listed' := (bm 12 3)); rfl; kernel_rfl; kernel_rfl; (first | (apply Still.load; rfl; rfl; (exact Rd.any); (first | rfl | exact flat_get0 (by assumption) | exact flat_get1 (by assumption) | exact flat_get2 (by assumption) | exact flat_get3 (by assumption) | exact flat_get4 (by assumption))) | (apply Still.loadAgg; rfl; rfl; (exact eqAuto); (exact Rd.any); (first | exact flat_take (by assumption) | rfl); rfl)); (first | exact hS | exact hS.tail | exact hS.sublist (by repeat (first | exact List.Sublist.refl _ | refine .cons_cons _ ?_ | refine .cons _ ?_))); rfl)
      all_goals (apply RH.take (i := 2) (listed := (bm 12 3)) (listed' := (bm 12 7)); rfl; kernel_rfl; kernel_rfl; (apply Still.move; rfl); (first | exact hS | exact hS.tail | exact hS.sublist (by repeat (first | exact List.Sublist.refl _ | refine .cons_cons _ ?_ | refine .cons _ ?_))); rfl)
      all_goals (apply RH.take (i := 3) (listed := (bm 12 7)) (listed' := (bm 12 15)); rfl; kernel_rfl; kernel_rfl; (apply Still.move; rfl); (first | exact hS | exact hS.tail | exact hS.sublist (by repeat (first | exact List.Sublist.refl _ | refine .cons_cons _ ?_ | refine .cons _ ?_))); rfl)
      all_goals (apply RH.take (i := 4) (listed := (bm 12 15)) (listed' := (bm 12 31)); rfl; kernel_rfl; kernel_rfl; (first | (apply Still.load; rfl; rfl; (exact Rd.any); (first | rfl | exact flat_get0 (by assumption) | exact flat_get1 (by assumption) | exact flat_get2 (by assumption) | exact flat_get3 (by assumption) | exact flat_get4 (by assumption))) | (apply Still.loadAgg; rfl; rfl; (exact eqAuto); (exact Rd.any); (first | exact flat_take (by assumption) | rfl); rfl)); (first | exact hS | exact hS.tail | exact hS.sublist (by repeat (first | exact List.Sublist.refl _ | refine .cons_cons _ ?_ | refine .cons _ ?_))); rfl)
      all_goals (apply RH.take (i := 5) (listed := (bm 12 31)) (listed' := (bm 12 63)); rfl; kernel_rfl; kernel_rfl; (apply Still.move; rfl); (first | exact hS | exact hS.tail | exact hS.sublist (by repeat (first | exact List.Sublist.refl _ | refine .cons_cons _ ?_ | refine .cons _ ?_))); rfl)
      all_goals
        apply RH.all1 (i := 6) (listed := (bm 12 63))
        · kernel_rfl
        · apply RI.op (i := 6) (listed := (bm 12 63)) (listed' := (bm 12 127)); rfl; kernel_rfl
          all_goals try first
          | (apply OP.callF; rfl; rfl; rfl; apply refCan (K := K) (spk := sp) g hS; (exact Rd.any); (exact Rd.any); clear hS; rintro v w1 ⟨gc, rfl, hS⟩; refine ⟨(by first | exact hS | exact hS.tail | exact hS.sublist (by repeat (first | exact List.Sublist.refl _ | refine .cons_cons _ ?_ | refine .cons _ ?_))), ?_⟩)
          | (refine OP.still (by exact Still.any) hS rfl ⟨(by first | exact hS | exact hS.tail | exact hS.sublist (by repeat (first | exact List.Sublist.refl _ | refine .cons_cons _ ?_ | refine .cons _ ?_))), ?_⟩)
          all_goals (apply RH.take (i := 7) (listed := (bm 12 127)) (listed' := (bm 12 255)); rfl; kernel_rfl; kernel_rfl; (apply Still.assign; rfl); (first | exact hS | exact hS.tail | exact hS.sublist (by repeat (first | exact List.Sublist.refl _ | refine .cons_cons _ ?_ | refine .cons _ ?_))); rfl)
          all_goals
            apply RH.all1 (i := 8) (listed := (bm 12 255))
            · kernel_rfl
            · apply RI.op (i := 8) (listed := (bm 12 255)) (listed' := (bm 12 511)); rfl; kernel_rfl
              all_goals try first
              | (apply OP.store hS; rfl; rfl; rfl; rfl; rfl; (focus ((repeat (first | apply Has.head | apply Take.head | apply Put.head | apply Has.tail | apply Take.tail | apply Put.tail)); done)); rfl; rfl; clear hS; intro w1 hS; refine ⟨(by first | exact hS | exact hS.tail | exact hS.sublist (by repeat (first | exact List.Sublist.refl _ | refine .cons_cons _ ?_ | refine .cons _ ?_))), ?_⟩)
              all_goals (apply RH.take (i := 9) (listed := (bm 12 511)) (listed' := (bm 12 1023)); rfl; kernel_rfl; kernel_rfl; (apply Still.assign; rfl); (first | exact hS | exact hS.tail | exact hS.sublist (by repeat (first | exact List.Sublist.refl _ | refine .cons_cons _ ?_ | refine .cons _ ?_))); rfl)
              all_goals (apply RH.take (i := 10) (listed := (bm 12 1023)) (listed' := (bm 12 2047)); rfl; kernel_rfl; kernel_rfl; (apply Still.assign; rfl); (first | exact hS | exact hS.tail | exact hS.sublist (by repeat (first | exact List.Sublist.refl _ | refine .cons_cons _ ?_ | refine .cons _ ?_))); rfl)
              all_goals (apply RH.take (i := 11) (listed := (bm 12 2047)) (listed' := (bm 12 4095)); rfl; kernel_rfl; kernel_rfl; (apply Still.assign; rfl); (first | exact hS | exact hS.tail | exact hS.sublist (by repeat (first | exact List.Sublist.refl _ | refine .cons_cons _ ?_ | refine .cons _ ?_))); rfl)
              all_goals (apply RH.done (listed := (bm 12 4095)); kernel_rfl)
              all_goals (exact ⟨_, (by focus ((repeat (first | exact .nil | refine .cons rfl ?_)); done)), hS.picks (by focus ((repeat (first | apply Picks.all | apply Picks.nil | (refine Picks.cons (by repeat (first | apply Take.head | apply Take.tail)) ?_) | apply Picks.drop)); done))⟩)
    · clear hS
      rintro gc w1 hS
      repeat' first
        | refine Run.seq ?_
        | refine Run.region ?_
        | (refine RO.split ?_ ?_ <;> intro hc <;> try (first | (exfalso; omega) | exact absurd rfl hc | exact Bool.noConfusion hc))
        | refine RO.nil ?_
        | refine RO.still (by exact Still.any) hS rfl ?_
        | (apply RO.op; apply OP.box hS; rfl; rfl; rfl; clear hS; intro b w1 hS)
        | (apply RO.op; apply OP.alloc hS; rfl; rfl; rfl; clear hS; intro b w1 hS)
        | (apply RO.op; apply OP.store hS; rfl; rfl; rfl; rfl; rfl; (focus ((repeat (first | apply Has.head | apply Take.head | apply Put.head | apply Has.tail | apply Take.tail | apply Put.tail)); done)); rfl; rfl; clear hS; intro w1 hS)
        | (apply RO.op; apply OP.buildSlice hS; rfl; rfl; (exact eqAuto); rfl; rfl; rfl; rfl; rfl; clear hS; intro b w1 hS)
        | (apply RO.op; apply OP.makeMap hS; rfl; clear hS; intro b w1 hS)
        | refine RO.yes rfl rfl ?_
        | refine RO.no rfl rfl rfl rfl ?_
        | refine RO.noUndef rfl rfl rfl ?_
        | refine RO.noNone rfl rfl rfl ?_
        | refine Run.cond_true rfl ?_
        | refine Run.cond_false rfl ?_
        | refine Run.skip ?_
        | refine Run.block ?_
        | refine Run.inBlock ?_
        | refine Run.exit rfl ?_
      refine Run.ret Try.func22 rfl (.tmp rfl (.cell rfl (by first | exact run_loadAgg rfl rfl (hS.rd (by exact Rd.any)) (by rfl) (by rfl) | exact run_loadScalar rfl (cell_of (hS.rd (by exact Rd.any)) (by rfl))) (.tmp rfl (.tmp rfl (.tmp rfl .nil))))) ?_
      exact ⟨kb, p, r, c, spare, gk, ck, sp, gc, rfl, hS.picks (by focus ((repeat (first | apply Picks.all | apply Picks.nil | (refine Picks.cons (by repeat (first | apply Take.head | apply Take.tail)) ?_) | apply Picks.drop)); done))⟩
end
end Go.Proofs.Ytcigkkedffggiaa
