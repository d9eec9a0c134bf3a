/-
  What a known Seal holds is known, if its key can be made; a Dh can be made just if it is known, or one of both can, and the other's Pub: undertonelaw03.KnowSeals is true.
-/
import Derived.Test.YtjkfbimldgegmaaKnow14
namespace Go.Proofs.Ytjkfbimldgegmaa
set_option maxRecDepth 8000
set_option linter.unusedSimpArgs false
set_option linter.unusedVariables false
open Go Go.RowKit


section
variable {we w : World} {ρ : List (Nat × Obj)} {σ F : List HP} {p lim : Nat} {L : List Nd}

set_option maxHeartbeats 4000000 in
theorem sealsPublic {kb p r c bk bb : Nat} {spare : List Value} {K : Int → Bool} {heard : List Int} {x : Int} (g : Good lim L) (hh : ∀ x, K x = true → has L x = true)
    (hS : St we ρ (KN kb p heard K :: Arena p lim L :: Row r (flat L ++ spare) 37 :: Row bb [.int .i64 lim, .slice (some ⟨r, 0, none⟩) L.length c] 29 :: Row bk [.pointer (some ⟨kb, 0, none⟩)] 26 :: F) w) :
    Cl Try.prog 17 [.int .i64 x, .pointer (some ⟨bb, 0, none⟩), .pointer (some ⟨bk, 0, none⟩)] w fun v w' => v = .bool (can L K x || pubK L K x) ∧
      St we ρ (KN kb p heard K :: Arena p lim L :: Row r (flat L ++ spare) 37 :: Row bb [.int .i64 lim, .slice (some ⟨r, 0, none⟩) L.length c] 29 :: Row bk [.pointer (some ⟨kb, 0, none⟩)] 26 :: F) w' := by
  have hlim := g.lim
  have hlen := g.len
  refine Run.calls3 (n := 33) Try.func17 rfl rfl rfl ?_
  repeat' first
    | refine Run.seq ?_
    | refine Run.region ?_
    | (refine RO.split ?_ ?_ <;> intro hc <;> try (first | (exfalso; omega) | exact absurd rfl hc | exact Bool.noConfusion hc))
    | refine RO.nil ?_
    | refine RO.still (by exact Still.any) hS rfl ?_
    | (apply RO.op; apply OP.box hS; rfl; rfl; rfl; clear hS; intro b w1 hS)
    | (apply RO.op; apply OP.alloc hS; rfl; rfl; rfl; clear hS; intro b w1 hS)
    | (apply RO.op; apply OP.store hS; rfl; rfl; rfl; rfl; rfl; (focus ((repeat (first | apply Has.head | apply Take.head | apply Put.head | apply Has.tail | apply Take.tail | apply Put.tail)); done)); rfl; rfl; clear hS; intro w1 hS)
    | (apply RO.op; apply OP.buildSlice hS; rfl; rfl; (exact eqAuto); rfl; rfl; rfl; rfl; rfl; clear hS; intro b w1 hS)
    | (apply RO.op; apply OP.makeMap hS; rfl; clear hS; intro b w1 hS)
    | refine RO.yes rfl rfl ?_
    | refine RO.no rfl rfl rfl rfl ?_
    | refine RO.noUndef rfl rfl rfl ?_
    | refine RO.noNone rfl rfl rfl ?_
    | refine Run.cond_true rfl ?_
    | refine Run.cond_false rfl ?_
    | refine Run.skip ?_
    | refine Run.block ?_
    | refine Run.inBlock ?_
    | refine Run.exit rfl ?_
  refine Run.while (fun i : Nat => [(0, .int .i64 x), (1, .pointer (some ⟨bb, 0, none⟩)), (2, .pointer (some ⟨bk, 0, none⟩)), (8, .slice (some ⟨r, 0, none⟩) L.length c), (9, .int .i64 L.length), (10, .int .i64 i)])
    (fun i w => i ≤ L.length ∧ (∀ j : Nat, j < i → ¬ ((nd L j).k = 2 ∧ (nd L j).a = x ∧ can L K j = true)) ∧ St we ρ (KN kb p heard K :: Arena p lim L :: Row r (flat L ++ spare) 37 :: Row bb [.int .i64 lim, .slice (some ⟨r, 0, none⟩) L.length c] 29 :: Row bk [.pointer (some ⟨kb, 0, none⟩)] 26 :: F) w) (fun i => L.length - i) 0
    ⟨by omega, fun j hj => by omega, hS.picks (by focus ((repeat (first | apply Picks.all | apply Picks.nil | (refine Picks.cons (by repeat (first | apply Take.head | apply Take.tail)) ?_) | apply Picks.drop)); done))⟩ (by focus ((repeat (first | exact .nil | refine .cons rfl ?_)); done)) ?_
  clear hS
  rintro i w ⟨hi, hno, hS⟩ ih
  by_cases hlt : i < L.length
  · have hih : has L (i : Int) = true := has_of hlt
    have fn : ((flat L ++ spare).drop (i * 5)).take 5 = ndL (nd L i) := flat_take (x := (i : Int)) hih
    have hnext : ¬ ((nd L i).k = 2 ∧ (nd L i).a = x ∧ can L K i = true) → ∀ j : Nat, j < i + 1 → ¬ ((nd L j).k = 2 ∧ (nd L j).a = x ∧ can L K j = true) := fun h j hj => by
      by_cases e : j = i
      · subst e; exact h
      · exact hno j (by omega)
    by_cases k2 : (nd L i).k = 2
    · by_cases ka : (nd L i).a = x
      · cases hcan : can L K (i : Nat) with
        | true =>
          have hres : (can L K x || pubK L K x) = true := by
            rw [can_eq g K hih] at hcan
            rcases Bool.or_eq_true_iff.1 hcan with q | q
            · rw [(pubK_iff g).2 ⟨i, hlt, q, k2, ka⟩, Bool.or_true]
            · unfold canR at q
              rw [if_neg (by omega), if_neg (by omega), if_pos k2, ka] at q
              rw [q]; rfl
          rw [hres]
          repeat' first
            | (refine RO.still (by apply Still.loadAgg; rfl; rfl; (exact eqAuto); (exact Rd.any); exact fn; rfl) hS rfl ?_)
            | (apply RO.op; apply OP.callF; rfl; rfl; rfl; show Cl _ 15 _ _ _; exact kcan_is hh hcan (hS.take2 (by focus ((repeat (first | apply Has.head | apply Take.head | apply Put.head | apply Has.tail | apply Take.tail | apply Put.tail)); done)) (by focus ((repeat (first | apply Has.head | apply Take.head | apply Put.head | apply Has.tail | apply Take.tail | apply Put.tail)); done))); clear hS; rintro v w1 ⟨rfl, hS⟩)
            | (apply OP.callF; rfl; rfl; rfl; show Cl _ 15 _ _ _; exact kcan_is hh hcan (hS.take2 (by focus ((repeat (first | apply Has.head | apply Take.head | apply Put.head | apply Has.tail | apply Take.tail | apply Put.tail)); done)) (by focus ((repeat (first | apply Has.head | apply Take.head | apply Put.head | apply Has.tail | apply Take.tail | apply Put.tail)); done))); clear hS; rintro v w1 ⟨rfl, hS⟩; refine ⟨(by first | exact hS | exact hS.tail | exact hS.sublist (by repeat (first | exact List.Sublist.refl _ | refine .cons_cons _ ?_ | refine .cons _ ?_))), ?_⟩)
            | refine Run.seq ?_
            | refine Run.region ?_
            | (refine RO.split ?_ ?_ <;> intro hc <;> try (first | (exfalso; omega) | exact absurd rfl hc | exact Bool.noConfusion hc))
            | refine RO.nil ?_
            | refine RO.still (by exact Still.any) hS rfl ?_
            | (apply RO.op; apply OP.box hS; rfl; rfl; rfl; clear hS; intro b w1 hS)
            | (apply RO.op; apply OP.alloc hS; rfl; rfl; rfl; clear hS; intro b w1 hS)
            | (apply RO.op; apply OP.store hS; rfl; rfl; rfl; rfl; rfl; (focus ((repeat (first | apply Has.head | apply Take.head | apply Put.head | apply Has.tail | apply Take.tail | apply Put.tail)); done)); rfl; rfl; clear hS; intro w1 hS)
            | (apply RO.op; apply OP.buildSlice hS; rfl; rfl; (exact eqAuto); rfl; rfl; rfl; rfl; rfl; clear hS; intro b w1 hS)
            | (apply RO.op; apply OP.makeMap hS; rfl; clear hS; intro b w1 hS)
            | refine RO.yes rfl rfl ?_
            | refine RO.no rfl rfl rfl rfl ?_
            | refine RO.noUndef rfl rfl rfl ?_
            | refine RO.noNone rfl rfl rfl ?_
            | refine Run.cond_true rfl ?_
            | refine Run.cond_false rfl ?_
            | refine Run.skip ?_
            | refine Run.block ?_
            | refine Run.inBlock ?_
            | refine Run.exit rfl ?_
          refine Run.ret Try.func17 rfl (.tmp rfl .nil) ?_
          exact ⟨rfl, hS.picks (by focus ((repeat (first | apply Picks.all | apply Picks.nil | (refine Picks.cons (by repeat (first | apply Take.head | apply Take.tail)) ?_) | apply Picks.drop)); done))⟩
        | false =>
          have hn2 := hnext (fun h => by rw [hcan] at h; cases h.2.2)
          repeat' first
            | (refine RO.still (by apply Still.loadAgg; rfl; rfl; (exact eqAuto); (exact Rd.any); exact fn; rfl) hS rfl ?_)
            | (apply RO.op; apply OP.callF; rfl; rfl; rfl; show Cl _ 15 _ _ _; exact kcan_is hh hcan (hS.take2 (by focus ((repeat (first | apply Has.head | apply Take.head | apply Put.head | apply Has.tail | apply Take.tail | apply Put.tail)); done)) (by focus ((repeat (first | apply Has.head | apply Take.head | apply Put.head | apply Has.tail | apply Take.tail | apply Put.tail)); done))); clear hS; rintro v w1 ⟨rfl, hS⟩)
            | (apply OP.callF; rfl; rfl; rfl; show Cl _ 15 _ _ _; exact kcan_is hh hcan (hS.take2 (by focus ((repeat (first | apply Has.head | apply Take.head | apply Put.head | apply Has.tail | apply Take.tail | apply Put.tail)); done)) (by focus ((repeat (first | apply Has.head | apply Take.head | apply Put.head | apply Has.tail | apply Take.tail | apply Put.tail)); done))); clear hS; rintro v w1 ⟨rfl, hS⟩; refine ⟨(by first | exact hS | exact hS.tail | exact hS.sublist (by repeat (first | exact List.Sublist.refl _ | refine .cons_cons _ ?_ | refine .cons _ ?_))), ?_⟩)
            | refine Run.seq ?_
            | refine Run.region ?_
            | (refine RO.split ?_ ?_ <;> intro hc <;> try (first | (exfalso; omega) | exact absurd rfl hc | exact Bool.noConfusion hc))
            | refine RO.nil ?_
            | refine RO.still (by exact Still.any) hS rfl ?_
            | (apply RO.op; apply OP.box hS; rfl; rfl; rfl; clear hS; intro b w1 hS)
            | (apply RO.op; apply OP.alloc hS; rfl; rfl; rfl; clear hS; intro b w1 hS)
            | (apply RO.op; apply OP.store hS; rfl; rfl; rfl; rfl; rfl; (focus ((repeat (first | apply Has.head | apply Take.head | apply Put.head | apply Has.tail | apply Take.tail | apply Put.tail)); done)); rfl; rfl; clear hS; intro w1 hS)
            | (apply RO.op; apply OP.buildSlice hS; rfl; rfl; (exact eqAuto); rfl; rfl; rfl; rfl; rfl; clear hS; intro b w1 hS)
            | (apply RO.op; apply OP.makeMap hS; rfl; clear hS; intro b w1 hS)
            | refine RO.yes rfl rfl ?_
            | refine RO.no rfl rfl rfl rfl ?_
            | refine RO.noUndef rfl rfl rfl ?_
            | refine RO.noNone rfl rfl rfl ?_
            | refine Run.cond_true rfl ?_
            | refine Run.cond_false rfl ?_
            | refine Run.skip ?_
            | refine Run.block ?_
            | refine Run.inBlock ?_
            | refine Run.exit rfl ?_
          refine Run.weaken (by focus ((repeat (first | exact .nil | refine .cons rfl ?_)); done)) (ih (i + 1) _ ⟨by omega, hn2, hS.picks (by focus ((repeat (first | apply Picks.all | apply Picks.nil | (refine Picks.cons (by repeat (first | apply Take.head | apply Take.tail)) ?_) | apply Picks.drop)); done))⟩ (by omega))
      · have hn2 := hnext (fun h => ka h.2.1)
        repeat' first
          | (refine RO.still (by apply Still.loadAgg; rfl; rfl; (exact eqAuto); (exact Rd.any); exact fn; rfl) hS rfl ?_)
          | refine Run.seq ?_
          | refine Run.region ?_
          | (refine RO.split ?_ ?_ <;> intro hc <;> try (first | (exfalso; omega) | exact absurd rfl hc | exact Bool.noConfusion hc))
          | refine RO.nil ?_
          | refine RO.still (by exact Still.any) hS rfl ?_
          | (apply RO.op; apply OP.box hS; rfl; rfl; rfl; clear hS; intro b w1 hS)
          | (apply RO.op; apply OP.alloc hS; rfl; rfl; rfl; clear hS; intro b w1 hS)
          | (apply RO.op; apply OP.store hS; rfl; rfl; rfl; rfl; rfl; (focus ((repeat (first | apply Has.head | apply Take.head | apply Put.head | apply Has.tail | apply Take.tail | apply Put.tail)); done)); rfl; rfl; clear hS; intro w1 hS)
          | (apply RO.op; apply OP.buildSlice hS; rfl; rfl; (exact eqAuto); rfl; rfl; rfl; rfl; rfl; clear hS; intro b w1 hS)
          | (apply RO.op; apply OP.makeMap hS; rfl; clear hS; intro b w1 hS)
          | refine RO.yes rfl rfl ?_
          | refine RO.no rfl rfl rfl rfl ?_
          | refine RO.noUndef rfl rfl rfl ?_
          | refine RO.noNone rfl rfl rfl ?_
          | refine Run.cond_true rfl ?_
          | refine Run.cond_false rfl ?_
          | refine Run.skip ?_
          | refine Run.block ?_
          | refine Run.inBlock ?_
          | refine Run.exit rfl ?_
        refine Run.weaken (by focus ((repeat (first | exact .nil | refine .cons rfl ?_)); done)) (ih (i + 1) _ ⟨by omega, hn2, hS.picks (by focus ((repeat (first | apply Picks.all | apply Picks.nil | (refine Picks.cons (by repeat (first | apply Take.head | apply Take.tail)) ?_) | apply Picks.drop)); done))⟩ (by omega))
    · have hn2 := hnext (fun h => k2 h.1)
      repeat' first
        | (refine RO.still (by apply Still.loadAgg; rfl; rfl; (exact eqAuto); (exact Rd.any); exact fn; rfl) hS rfl ?_)
        | refine Run.seq ?_
        | refine Run.region ?_
        | (refine RO.split ?_ ?_ <;> intro hc <;> try (first | (exfalso; omega) | exact absurd rfl hc | exact Bool.noConfusion hc))
        | refine RO.nil ?_
        | refine RO.still (by exact Still.any) hS rfl ?_
        | (apply RO.op; apply OP.box hS; rfl; rfl; rfl; clear hS; intro b w1 hS)
        | (apply RO.op; apply OP.alloc hS; rfl; rfl; rfl; clear hS; intro b w1 hS)
        | (apply RO.op; apply OP.store hS; rfl; rfl; rfl; rfl; rfl; (focus ((repeat (first | apply Has.head | apply Take.head | apply Put.head | apply Has.tail | apply Take.tail | apply Put.tail)); done)); rfl; rfl; clear hS; intro w1 hS)
        | (apply RO.op; apply OP.buildSlice hS; rfl; rfl; (exact eqAuto); rfl; rfl; rfl; rfl; rfl; clear hS; intro b w1 hS)
        | (apply RO.op; apply OP.makeMap hS; rfl; clear hS; intro b w1 hS)
        | refine RO.yes rfl rfl ?_
        | refine RO.no rfl rfl rfl rfl ?_
        | refine RO.noUndef rfl rfl rfl ?_
        | refine RO.noNone rfl rfl rfl ?_
        | refine Run.cond_true rfl ?_
        | refine Run.cond_false rfl ?_
        | refine Run.skip ?_
        | refine Run.block ?_
        | refine Run.inBlock ?_
        | refine Run.exit rfl ?_
      refine Run.weaken (by focus ((repeat (first | exact .nil | refine .cons rfl ?_)); done)) (ih (i + 1) _ ⟨by omega, hn2, hS.picks (by focus ((repeat (first | apply Picks.all | apply Picks.nil | (refine Picks.cons (by repeat (first | apply Take.head | apply Take.tail)) ?_) | apply Picks.drop)); done))⟩ (by omega))
  · obtain rfl : i = L.length := by omega
    have hp : (can L K x || pubK L K x) = can L K x := by
      cases h : pubK L K x with
      | false => rw [Bool.or_false]
      | true =>
        obtain ⟨j, j1, j2, j3, j4⟩ := (pubK_iff g).1 h
        exact absurd ⟨j3, j4, can_known g (has_of j1) j2⟩ (hno j j1)
    rw [hp]
    repeat' first
      | (apply RO.op; apply OP.callF; rfl; rfl; rfl; show Cl _ 15 _ _ _; exact kcan_calls hh (hS.take2 (by focus ((repeat (first | apply Has.head | apply Take.head | apply Put.head | apply Has.tail | apply Take.tail | apply Put.tail)); done)) (by focus ((repeat (first | apply Has.head | apply Take.head | apply Put.head | apply Has.tail | apply Take.tail | apply Put.tail)); done))); clear hS; rintro v w1 ⟨rfl, hS⟩)
      | (apply OP.callF; rfl; rfl; rfl; show Cl _ 15 _ _ _; exact kcan_calls hh (hS.take2 (by focus ((repeat (first | apply Has.head | apply Take.head | apply Put.head | apply Has.tail | apply Take.tail | apply Put.tail)); done)) (by focus ((repeat (first | apply Has.head | apply Take.head | apply Put.head | apply Has.tail | apply Take.tail | apply Put.tail)); done))); clear hS; rintro v w1 ⟨rfl, hS⟩; refine ⟨(by first | exact hS | exact hS.tail | exact hS.sublist (by repeat (first | exact List.Sublist.refl _ | refine .cons_cons _ ?_ | refine .cons _ ?_))), ?_⟩)
      | refine Run.seq ?_
      | refine Run.region ?_
      | (refine RO.split ?_ ?_ <;> intro hc <;> try (first | (exfalso; omega) | exact absurd rfl hc | exact Bool.noConfusion hc))
      | refine RO.nil ?_
      | refine RO.still (by exact Still.any) hS rfl ?_
      | (apply RO.op; apply OP.box hS; rfl; rfl; rfl; clear hS; intro b w1 hS)
      | (apply RO.op; apply OP.alloc hS; rfl; rfl; rfl; clear hS; intro b w1 hS)
      | (apply RO.op; apply OP.store hS; rfl; rfl; rfl; rfl; rfl; (focus ((repeat (first | apply Has.head | apply Take.head | apply Put.head | apply Has.tail | apply Take.tail | apply Put.tail)); done)); rfl; rfl; clear hS; intro w1 hS)
      | (apply RO.op; apply OP.buildSlice hS; rfl; rfl; (exact eqAuto); rfl; rfl; rfl; rfl; rfl; clear hS; intro b w1 hS)
      | (apply RO.op; apply OP.makeMap hS; rfl; clear hS; intro b w1 hS)
      | refine RO.yes rfl rfl ?_
      | refine RO.no rfl rfl rfl rfl ?_
      | refine RO.noUndef rfl rfl rfl ?_
      | refine RO.noNone rfl rfl rfl ?_
      | refine Run.cond_true rfl ?_
      | refine Run.cond_false rfl ?_
      | refine Run.skip ?_
      | refine Run.block ?_
      | refine Run.inBlock ?_
      | refine Run.exit rfl ?_
    refine Run.ret Try.func17 rfl (.tmp rfl .nil) ?_
    exact ⟨rfl, hS.picks (by focus ((repeat (first | apply Picks.all | apply Picks.nil | (refine Picks.cons (by repeat (first | apply Take.head | apply Take.tail)) ?_) | apply Picks.drop)); done))⟩

set_option maxHeartbeats 16000000 in
theorem knowSeals_law {l : List Nd} {v : Value} {refs : List Int} {u : Value} (hl : Sl ρ ndL 5 v l) (hq : ∀ a ∈ l, 0 ≤ a.n ∧ a.n ≤ 18446744073709551615) (hr : Sl ρ intL 1 u refs) (hq2 : ∀ a ∈ refs, True) (hS : St we ρ σ w) :
    Cl Try.prog 5 [v, u] w fun v w' => v = .bool true ∧ St we ρ σ w' := by
  obtain ⟨sp1, cap1, rfl, hle1, hcm1, -⟩ := hl.val
  obtain ⟨sp2, cap2, rfl, hle2, hcm2, -⟩ := hr.val
  refine Run.calls2 (n := 105) Try.func5 rfl rfl rfl ?_
  by_cases h30 : l.length ≤ 30 ∧ refs.length ≤ 30
  rotate_left
  · have hfew := decide_eq_false h30
    repeat' first
      | (apply RO.op; apply OP.callF; rfl; rfl; rfl; show Cl _ 11 _ _ _; exact few_calls (l := l) (refs := refs) hS; clear hS; rintro v w1 ⟨rfl, hS⟩; rw [hfew])
      | (apply OP.callF; rfl; rfl; rfl; show Cl _ 11 _ _ _; exact few_calls (l := l) (refs := refs) hS; clear hS; rintro v w1 ⟨rfl, hS⟩; rw [hfew]; refine ⟨(by first | exact hS | exact hS.tail | exact hS.sublist (by repeat (first | exact List.Sublist.refl _ | refine .cons_cons _ ?_ | refine .cons _ ?_))), ?_⟩)
      | (apply RO.op; apply OP.callF; rfl; rfl; rfl; show Cl _ 12 _ _ _; exact kawake_calls hS; clear hS; rintro v w1 ⟨rfl, hS⟩)
      | (apply OP.callF; rfl; rfl; rfl; show Cl _ 12 _ _ _; exact kawake_calls hS; clear hS; rintro v w1 ⟨rfl, hS⟩; refine ⟨(by first | exact hS | exact hS.tail | exact hS.sublist (by repeat (first | exact List.Sublist.refl _ | refine .cons_cons _ ?_ | refine .cons _ ?_))), ?_⟩)
      | refine Run.seq ?_
      | refine Run.region ?_
      | (refine RO.split ?_ ?_ <;> intro hc <;> try (first | (exfalso; omega) | exact absurd rfl hc | exact Bool.noConfusion hc))
      | refine RO.nil ?_
      | refine RO.still (by exact Still.any) hS rfl ?_
      | (apply RO.op; apply OP.box hS; rfl; rfl; rfl; clear hS; intro b w1 hS)
      | (apply RO.op; apply OP.alloc hS; rfl; rfl; rfl; clear hS; intro b w1 hS)
      | (apply RO.op; apply OP.store hS; rfl; rfl; rfl; rfl; rfl; (focus ((repeat (first | apply Has.head | apply Take.head | apply Put.head | apply Has.tail | apply Take.tail | apply Put.tail)); done)); rfl; rfl; clear hS; intro w1 hS)
      | (apply RO.op; apply OP.buildSlice hS; rfl; rfl; (exact eqAuto); rfl; rfl; rfl; rfl; rfl; clear hS; intro b w1 hS)
      | (apply RO.op; apply OP.makeMap hS; rfl; clear hS; intro b w1 hS)
      | refine RO.yes rfl rfl ?_
      | refine RO.no rfl rfl rfl rfl ?_
      | refine RO.noUndef rfl rfl rfl ?_
      | refine RO.noNone rfl rfl rfl ?_
      | refine Run.cond_true rfl ?_
      | refine Run.cond_false rfl ?_
      | refine Run.skip ?_
      | refine Run.block ?_
      | refine Run.inBlock ?_
      | refine Run.exit rfl ?_
    refine Run.ret Try.func5 rfl (.tmp rfl .nil) ?_
    exact ⟨rfl, hS.picks (by focus ((repeat (first | apply Picks.all | apply Picks.nil | (refine Picks.cons (by repeat (first | apply Take.head | apply Take.tail)) ?_) | apply Picks.drop)); done))⟩
  have hfew := decide_eq_true h30
  obtain ⟨h1, h2⟩ := h30
  have h40 : l.length ≤ 40 := by omega
  have g := builtUp_good (limit := 100) l
  have hh := learnAll_has g (K := fun _ => false) (by simp) refs
  have hclo := learnAll_closed (L := builtUp (room 100) l) refs
  have hflen : (refs.filter (has (builtUp (room 100) l))).length ≤ 30 := by
    have := List.length_filter_le (has (builtUp (room 100) l)) refs
    omega
  generalize hL : builtUp (room 100) l = L at g hh hclo hflen
  generalize hK : learnAll L refs (fun _ => false) = K at hh hclo
  have hlim := g.lim
  have hlen := g.len
  have hlearned : ∀ {σ : List HP} {w : World}, St we ρ σ w → _ := fun {σ w} hS => learned_calls (we := we) (ρ := ρ) (σ := σ) (w := w) h40 h2 hl hr hS
  simp only [hL, hK] at hlearned
  have tok : True := trivial
  repeat' first
    | (have _ := tok; clear tok; apply RO.op; apply OP.alloc hS; rfl; rfl; rfl; clear hS; intro bk w1 hS)
    | (apply RO.op; apply OP.callF; rfl; rfl; rfl; show Cl _ 11 _ _ _; exact few_calls (l := l) (refs := refs) hS; clear hS; rintro v w1 ⟨rfl, hS⟩; rw [hfew])
    | (apply OP.callF; rfl; rfl; rfl; show Cl _ 11 _ _ _; exact few_calls (l := l) (refs := refs) hS; clear hS; rintro v w1 ⟨rfl, hS⟩; rw [hfew]; refine ⟨(by first | exact hS | exact hS.tail | exact hS.sublist (by repeat (first | exact List.Sublist.refl _ | refine .cons_cons _ ?_ | refine .cons _ ?_))), ?_⟩)
    | (apply RO.op; apply OP.callF; rfl; rfl; rfl; show Cl _ 13 _ _ _; exact hlearned hS; clear hS; rintro v w1 ⟨kb, p, r, c, spare, gk, ck, sp, rfl, hS⟩)
    | (apply OP.callF; rfl; rfl; rfl; show Cl _ 13 _ _ _; exact hlearned hS; clear hS; rintro v w1 ⟨kb, p, r, c, spare, gk, ck, sp, rfl, hS⟩; refine ⟨(by first | exact hS | exact hS.tail | exact hS.sublist (by repeat (first | exact List.Sublist.refl _ | refine .cons_cons _ ?_ | refine .cons _ ?_))), ?_⟩)
    | refine Run.seq ?_
    | refine Run.region ?_
    | (refine RO.split ?_ ?_ <;> intro hc <;> try (first | (exfalso; omega) | exact absurd rfl hc | exact Bool.noConfusion hc))
    | refine RO.nil ?_
    | refine RO.still (by exact Still.any) hS rfl ?_
    | (apply RO.op; apply OP.box hS; rfl; rfl; rfl; clear hS; intro b w1 hS)
    | (apply RO.op; apply OP.alloc hS; rfl; rfl; rfl; clear hS; intro b w1 hS)
    | (apply RO.op; apply OP.store hS; rfl; rfl; rfl; rfl; rfl; (focus ((repeat (first | apply Has.head | apply Take.head | apply Put.head | apply Has.tail | apply Take.tail | apply Put.tail)); done)); rfl; rfl; clear hS; intro w1 hS)
    | (apply RO.op; apply OP.buildSlice hS; rfl; rfl; (exact eqAuto); rfl; rfl; rfl; rfl; rfl; clear hS; intro b w1 hS)
    | (apply RO.op; apply OP.makeMap hS; rfl; clear hS; intro b w1 hS)
    | refine RO.yes rfl rfl ?_
    | refine RO.no rfl rfl rfl rfl ?_
    | refine RO.noUndef rfl rfl rfl ?_
    | refine RO.noNone rfl rfl rfl ?_
    | refine Run.cond_true rfl ?_
    | refine Run.cond_false rfl ?_
    | refine Run.skip ?_
    | refine Run.block ?_
    | refine Run.inBlock ?_
    | refine Run.exit rfl ?_
  obtain ⟨b6, hb6⟩ : ∃ x, x = b := ⟨b, rfl⟩
  subst hb6
  refine Run.while (fun i : Nat => [(5, .pointer (some ⟨bk, 0, none⟩)), (6, .pointer (some ⟨b6, 0, none⟩)), (9, .func (.func 17) #[] #[.pointer (some ⟨b6, 0, none⟩), .pointer (some ⟨bk, 0, none⟩)]), (29, .slice (some ⟨r, 0, none⟩) L.length c), (30, .int .i64 L.length), (31, .int .i64 i)])
    (fun i w => i ≤ L.length ∧ St we ρ (KN kb p (refs.filter (has L)) K :: Arena p (room 100) L :: Row r (flat L ++ spare) 37 :: Row b6 [.int .i64 (room 100), .slice (some ⟨r, 0, none⟩) L.length c] 29 :: Row bk [.pointer (some ⟨kb, 0, none⟩)] 26 :: σ) w) (fun i => L.length - i) 0
    ⟨by omega, hS.picks (by focus ((repeat (first | apply Picks.all | apply Picks.nil | (refine Picks.cons (by repeat (first | apply Take.head | apply Take.tail)) ?_) | apply Picks.drop)); done))⟩ (by focus ((repeat (first | exact .nil | refine .cons rfl ?_)); done)) ?_
  clear hS
  rintro i w ⟨hi, hS⟩ ih
  by_cases hlt : i < L.length
  · have hih : has L (i : Int) = true := has_of hlt
    have fn : ((flat L ++ spare).drop (i * 5)).take 5 = ndL (nd L i) := flat_take (x := (i : Int)) hih
    have hceq := can_eq g K hih
    by_cases k7 : (nd L i).k = 7
    · have hopn := hclo.opn i
      cases hki : K (i : Nat) with
      | false =>
        repeat' first
          | (refine RO.still (by apply Still.loadAgg; rfl; rfl; (exact eqAuto); (exact Rd.any); exact fn; rfl) hS rfl ?_)
          | (apply RO.op; apply OP.callF; rfl; rfl; rfl; show Cl _ 16 [_, .int .i64 i] _ _; exact knows_is hki (hS.take (by focus ((repeat (first | apply Has.head | apply Take.head | apply Put.head | apply Has.tail | apply Take.tail | apply Put.tail)); done))); clear hS; rintro v w1 ⟨rfl, hS⟩)
          | (apply RO.op; apply OP.callF; rfl; rfl; rfl; show Cl _ 16 [_, .int .i64 (nd L i).c] _ _; exact knows_is hkc (hS.take (by focus ((repeat (first | apply Has.head | apply Take.head | apply Put.head | apply Has.tail | apply Take.tail | apply Put.tail)); done))); clear hS; rintro v w1 ⟨rfl, hS⟩)
          | (apply RO.op; apply OP.callF; rfl; rfl; rfl; show Cl _ 15 [_, .int .i64 (nd L i).a] _ _; exact kcan_is hh hca (hS.take2 (by focus ((repeat (first | apply Has.head | apply Take.head | apply Put.head | apply Has.tail | apply Take.tail | apply Put.tail)); done)) (by focus ((repeat (first | apply Has.head | apply Take.head | apply Put.head | apply Has.tail | apply Take.tail | apply Put.tail)); done))); clear hS; rintro v w1 ⟨rfl, hS⟩)
          | (refine Run.regionQ_of (take5 hS (by focus ((repeat (first | apply Has.head | apply Take.head | apply Put.head | apply Has.tail | apply Take.tail | apply Put.tail)); done)) (by focus ((repeat (first | apply Has.head | apply Take.head | apply Put.head | apply Has.tail | apply Take.tail | apply Put.tail)); done)) (by focus ((repeat (first | apply Has.head | apply Take.head | apply Put.head | apply Has.tail | apply Take.tail | apply Put.tail)); done)) (by focus ((repeat (first | apply Has.head | apply Take.head | apply Put.head | apply Has.tail | apply Take.tail | apply Put.tail)); done)) (by focus ((repeat (first | apply Has.head | apply Take.head | apply Put.head | apply Has.tail | apply Take.tail | apply Put.tail)); done)) : St we ρ (KN kb p (refs.filter (has L)) K :: Arena p (room 100) L :: Row r (flat L ++ spare) 37 :: Row b6 [.int .i64 (room 100), .slice (some ⟨r, 0, none⟩) L.length c] 29 :: Row bk [.pointer (some ⟨kb, 0, none⟩)] 26 :: _) _) (by rfl) (by kernel_rfl) ?_; clear hS)
          | (apply RQ.callF; rfl; rfl; rfl; (show ∀ w, _ → Cl _ 15 [_, .int .i64 (nd L i).a] _ _; exact fun w hS => (kcan_is hh hca (hS.take2 (by focus ((repeat (first | apply Has.head | apply Take.head | apply Put.head | apply Has.tail | apply Take.tail | apply Put.tail)); done)) (by focus ((repeat (first | apply Has.head | apply Take.head | apply Put.head | apply Has.tail | apply Take.tail | apply Put.tail)); done)))).at2 (by focus ((repeat (first | apply Has.head | apply Take.head | apply Put.head | apply Has.tail | apply Take.tail | apply Put.tail)); done)) (by focus ((repeat (first | apply Has.head | apply Take.head | apply Put.head | apply Has.tail | apply Take.tail | apply Put.tail)); done))))
          | (apply RQ.callF; rfl; rfl; rfl; (show ∀ w, _ → Cl _ 15 [_, .int .i64 (nd L i).b] _ _; exact fun w hS => (kcan_is hh hcb (hS.take2 (by focus ((repeat (first | apply Has.head | apply Take.head | apply Put.head | apply Has.tail | apply Take.tail | apply Put.tail)); done)) (by focus ((repeat (first | apply Has.head | apply Take.head | apply Put.head | apply Has.tail | apply Take.tail | apply Put.tail)); done)))).at2 (by focus ((repeat (first | apply Has.head | apply Take.head | apply Put.head | apply Has.tail | apply Take.tail | apply Put.tail)); done)) (by focus ((repeat (first | apply Has.head | apply Take.head | apply Put.head | apply Has.tail | apply Take.tail | apply Put.tail)); done))))
          | (apply RQ.callF; rfl; rfl; rfl; (show ∀ w, _ → Cl _ 15 [_, .int .i64 i] _ _; exact fun w hS => (kcan_is hh hceq (hS.take2 (by focus ((repeat (first | apply Has.head | apply Take.head | apply Put.head | apply Has.tail | apply Take.tail | apply Put.tail)); done)) (by focus ((repeat (first | apply Has.head | apply Take.head | apply Put.head | apply Has.tail | apply Take.tail | apply Put.tail)); done)))).at2 (by focus ((repeat (first | apply Has.head | apply Take.head | apply Put.head | apply Has.tail | apply Take.tail | apply Put.tail)); done)) (by focus ((repeat (first | apply Has.head | apply Take.head | apply Put.head | apply Has.tail | apply Take.tail | apply Put.tail)); done))))
          | (apply RQ.callF; rfl; rfl; rfl; (show ∀ w, _ → Cl _ 16 [_, .int .i64 i] _ _; exact fun w hS => (knows_is hki (hS.take (by focus ((repeat (first | apply Has.head | apply Take.head | apply Put.head | apply Has.tail | apply Take.tail | apply Put.tail)); done)))).at (by focus ((repeat (first | apply Has.head | apply Take.head | apply Put.head | apply Has.tail | apply Take.tail | apply Put.tail)); done))))
          | (apply RQ.callV; rfl; rfl; rfl; rfl; (show ∀ w, _ → Cl _ _ [.int .i64 (nd L i).a, _, _] _ _; exact fun w hS => hpubA hS))
          | (apply RQ.callV; rfl; rfl; rfl; rfl; (show ∀ w, _ → Cl _ _ [.int .i64 (nd L i).b, _, _] _ _; exact fun w hS => hpubB hS))
          | (refine RQ.split ?_ ?_ <;> intro hc <;> try (first | (exfalso; omega) | exact absurd rfl hc | exact Bool.noConfusion hc))
          | (refine RQ.nil ?_; (try clear hS); intro w1 hS)
          | refine RQ.still (by exact Still.any) rfl ?_
          | refine RQ.yes rfl rfl ?_
          | refine RQ.no rfl rfl rfl rfl ?_
          | refine RQ.noUndef rfl rfl rfl ?_
          | refine Run.seq ?_
          | refine Run.region ?_
          | (refine RO.split ?_ ?_ <;> intro hc <;> try (first | (exfalso; omega) | exact absurd rfl hc | exact Bool.noConfusion hc))
          | refine RO.nil ?_
          | refine RO.still (by exact Still.any) hS rfl ?_
          | (apply RO.op; apply OP.box hS; rfl; rfl; rfl; clear hS; intro b w1 hS)
          | (apply RO.op; apply OP.alloc hS; rfl; rfl; rfl; clear hS; intro b w1 hS)
          | (apply RO.op; apply OP.store hS; rfl; rfl; rfl; rfl; rfl; (focus ((repeat (first | apply Has.head | apply Take.head | apply Put.head | apply Has.tail | apply Take.tail | apply Put.tail)); done)); rfl; rfl; clear hS; intro w1 hS)
          | (apply RO.op; apply OP.buildSlice hS; rfl; rfl; (exact eqAuto); rfl; rfl; rfl; rfl; rfl; clear hS; intro b w1 hS)
          | (apply RO.op; apply OP.makeMap hS; rfl; clear hS; intro b w1 hS)
          | refine RO.yes rfl rfl ?_
          | refine RO.no rfl rfl rfl rfl ?_
          | refine RO.noUndef rfl rfl rfl ?_
          | refine RO.noNone rfl rfl rfl ?_
          | refine Run.cond_true rfl ?_
          | refine Run.cond_false rfl ?_
          | refine Run.skip ?_
          | refine Run.block ?_
          | refine Run.inBlock ?_
          | refine Run.exit rfl ?_
        all_goals refine Run.weaken (by focus ((repeat (first | exact .nil | refine .cons rfl ?_)); done)) (ih (i + 1) _ ⟨by omega, hS.picks (by focus ((repeat (first | apply Picks.all | apply Picks.nil | (refine Picks.cons (by repeat (first | apply Take.head | apply Take.tail)) ?_) | apply Picks.drop)); done))⟩ (by omega))
      | true =>
        cases hca : can L K (nd L i).a with
        | false =>
          repeat' first
            | (refine RO.still (by apply Still.loadAgg; rfl; rfl; (exact eqAuto); (exact Rd.any); exact fn; rfl) hS rfl ?_)
            | (apply RO.op; apply OP.callF; rfl; rfl; rfl; show Cl _ 16 [_, .int .i64 i] _ _; exact knows_is hki (hS.take (by focus ((repeat (first | apply Has.head | apply Take.head | apply Put.head | apply Has.tail | apply Take.tail | apply Put.tail)); done))); clear hS; rintro v w1 ⟨rfl, hS⟩)
            | (apply RO.op; apply OP.callF; rfl; rfl; rfl; show Cl _ 16 [_, .int .i64 (nd L i).c] _ _; exact knows_is hkc (hS.take (by focus ((repeat (first | apply Has.head | apply Take.head | apply Put.head | apply Has.tail | apply Take.tail | apply Put.tail)); done))); clear hS; rintro v w1 ⟨rfl, hS⟩)
            | (apply RO.op; apply OP.callF; rfl; rfl; rfl; show Cl _ 15 [_, .int .i64 (nd L i).a] _ _; exact kcan_is hh hca (hS.take2 (by focus ((repeat (first | apply Has.head | apply Take.head | apply Put.head | apply Has.tail | apply Take.tail | apply Put.tail)); done)) (by focus ((repeat (first | apply Has.head | apply Take.head | apply Put.head | apply Has.tail | apply Take.tail | apply Put.tail)); done))); clear hS; rintro v w1 ⟨rfl, hS⟩)
            | (refine Run.regionQ_of (take5 hS (by focus ((repeat (first | apply Has.head | apply Take.head | apply Put.head | apply Has.tail | apply Take.tail | apply Put.tail)); done)) (by focus ((repeat (first | apply Has.head | apply Take.head | apply Put.head | apply Has.tail | apply Take.tail | apply Put.tail)); done)) (by focus ((repeat (first | apply Has.head | apply Take.head | apply Put.head | apply Has.tail | apply Take.tail | apply Put.tail)); done)) (by focus ((repeat (first | apply Has.head | apply Take.head | apply Put.head | apply Has.tail | apply Take.tail | apply Put.tail)); done)) (by focus ((repeat (first | apply Has.head | apply Take.head | apply Put.head | apply Has.tail | apply Take.tail | apply Put.tail)); done)) : St we ρ (KN kb p (refs.filter (has L)) K :: Arena p (room 100) L :: Row r (flat L ++ spare) 37 :: Row b6 [.int .i64 (room 100), .slice (some ⟨r, 0, none⟩) L.length c] 29 :: Row bk [.pointer (some ⟨kb, 0, none⟩)] 26 :: _) _) (by rfl) (by kernel_rfl) ?_; clear hS)
            | (apply RQ.callF; rfl; rfl; rfl; (show ∀ w, _ → Cl _ 15 [_, .int .i64 (nd L i).a] _ _; exact fun w hS => (kcan_is hh hca (hS.take2 (by focus ((repeat (first | apply Has.head | apply Take.head | apply Put.head | apply Has.tail | apply Take.tail | apply Put.tail)); done)) (by focus ((repeat (first | apply Has.head | apply Take.head | apply Put.head | apply Has.tail | apply Take.tail | apply Put.tail)); done)))).at2 (by focus ((repeat (first | apply Has.head | apply Take.head | apply Put.head | apply Has.tail | apply Take.tail | apply Put.tail)); done)) (by focus ((repeat (first | apply Has.head | apply Take.head | apply Put.head | apply Has.tail | apply Take.tail | apply Put.tail)); done))))
            | (apply RQ.callF; rfl; rfl; rfl; (show ∀ w, _ → Cl _ 15 [_, .int .i64 (nd L i).b] _ _; exact fun w hS => (kcan_is hh hcb (hS.take2 (by focus ((repeat (first | apply Has.head | apply Take.head | apply Put.head | apply Has.tail | apply Take.tail | apply Put.tail)); done)) (by focus ((repeat (first | apply Has.head | apply Take.head | apply Put.head | apply Has.tail | apply Take.tail | apply Put.tail)); done)))).at2 (by focus ((repeat (first | apply Has.head | apply Take.head | apply Put.head | apply Has.tail | apply Take.tail | apply Put.tail)); done)) (by focus ((repeat (first | apply Has.head | apply Take.head | apply Put.head | apply Has.tail | apply Take.tail | apply Put.tail)); done))))
            | (apply RQ.callF; rfl; rfl; rfl; (show ∀ w, _ → Cl _ 15 [_, .int .i64 i] _ _; exact fun w hS => (kcan_is hh hceq (hS.take2 (by focus ((repeat (first | apply Has.head | apply Take.head | apply Put.head | apply Has.tail | apply Take.tail | apply Put.tail)); done)) (by focus ((repeat (first | apply Has.head | apply Take.head | apply Put.head | apply Has.tail | apply Take.tail | apply Put.tail)); done)))).at2 (by focus ((repeat (first | apply Has.head | apply Take.head | apply Put.head | apply Has.tail | apply Take.tail | apply Put.tail)); done)) (by focus ((repeat (first | apply Has.head | apply Take.head | apply Put.head | apply Has.tail | apply Take.tail | apply Put.tail)); done))))
            | (apply RQ.callF; rfl; rfl; rfl; (show ∀ w, _ → Cl _ 16 [_, .int .i64 i] _ _; exact fun w hS => (knows_is hki (hS.take (by focus ((repeat (first | apply Has.head | apply Take.head | apply Put.head | apply Has.tail | apply Take.tail | apply Put.tail)); done)))).at (by focus ((repeat (first | apply Has.head | apply Take.head | apply Put.head | apply Has.tail | apply Take.tail | apply Put.tail)); done))))
            | (apply RQ.callV; rfl; rfl; rfl; rfl; (show ∀ w, _ → Cl _ _ [.int .i64 (nd L i).a, _, _] _ _; exact fun w hS => hpubA hS))
            | (apply RQ.callV; rfl; rfl; rfl; rfl; (show ∀ w, _ → Cl _ _ [.int .i64 (nd L i).b, _, _] _ _; exact fun w hS => hpubB hS))
            | (refine RQ.split ?_ ?_ <;> intro hc <;> try (first | (exfalso; omega) | exact absurd rfl hc | exact Bool.noConfusion hc))
            | (refine RQ.nil ?_; (try clear hS); intro w1 hS)
            | refine RQ.still (by exact Still.any) rfl ?_
            | refine RQ.yes rfl rfl ?_
            | refine RQ.no rfl rfl rfl rfl ?_
            | refine RQ.noUndef rfl rfl rfl ?_
            | refine Run.seq ?_
            | refine Run.region ?_
            | (refine RO.split ?_ ?_ <;> intro hc <;> try (first | (exfalso; omega) | exact absurd rfl hc | exact Bool.noConfusion hc))
            | refine RO.nil ?_
            | refine RO.still (by exact Still.any) hS rfl ?_
            | (apply RO.op; apply OP.box hS; rfl; rfl; rfl; clear hS; intro b w1 hS)
            | (apply RO.op; apply OP.alloc hS; rfl; rfl; rfl; clear hS; intro b w1 hS)
            | (apply RO.op; apply OP.store hS; rfl; rfl; rfl; rfl; rfl; (focus ((repeat (first | apply Has.head | apply Take.head | apply Put.head | apply Has.tail | apply Take.tail | apply Put.tail)); done)); rfl; rfl; clear hS; intro w1 hS)
            | (apply RO.op; apply OP.buildSlice hS; rfl; rfl; (exact eqAuto); rfl; rfl; rfl; rfl; rfl; clear hS; intro b w1 hS)
            | (apply RO.op; apply OP.makeMap hS; rfl; clear hS; intro b w1 hS)
            | refine RO.yes rfl rfl ?_
            | refine RO.no rfl rfl rfl rfl ?_
            | refine RO.noUndef rfl rfl rfl ?_
            | refine RO.noNone rfl rfl rfl ?_
            | refine Run.cond_true rfl ?_
            | refine Run.cond_false rfl ?_
            | refine Run.skip ?_
            | refine Run.block ?_
            | refine Run.inBlock ?_
            | refine Run.exit rfl ?_
          all_goals refine Run.weaken (by focus ((repeat (first | exact .nil | refine .cons rfl ?_)); done)) (ih (i + 1) _ ⟨by omega, hS.picks (by focus ((repeat (first | apply Picks.all | apply Picks.nil | (refine Picks.cons (by repeat (first | apply Take.head | apply Take.tail)) ?_) | apply Picks.drop)); done))⟩ (by omega))
        | true =>
          have hkc := hopn hki k7 hca
          repeat' first
            | (refine RO.still (by apply Still.loadAgg; rfl; rfl; (exact eqAuto); (exact Rd.any); exact fn; rfl) hS rfl ?_)
            | (apply RO.op; apply OP.callF; rfl; rfl; rfl; show Cl _ 16 [_, .int .i64 i] _ _; exact knows_is hki (hS.take (by focus ((repeat (first | apply Has.head | apply Take.head | apply Put.head | apply Has.tail | apply Take.tail | apply Put.tail)); done))); clear hS; rintro v w1 ⟨rfl, hS⟩)
            | (apply RO.op; apply OP.callF; rfl; rfl; rfl; show Cl _ 16 [_, .int .i64 (nd L i).c] _ _; exact knows_is hkc (hS.take (by focus ((repeat (first | apply Has.head | apply Take.head | apply Put.head | apply Has.tail | apply Take.tail | apply Put.tail)); done))); clear hS; rintro v w1 ⟨rfl, hS⟩)
            | (apply RO.op; apply OP.callF; rfl; rfl; rfl; show Cl _ 15 [_, .int .i64 (nd L i).a] _ _; exact kcan_is hh hca (hS.take2 (by focus ((repeat (first | apply Has.head | apply Take.head | apply Put.head | apply Has.tail | apply Take.tail | apply Put.tail)); done)) (by focus ((repeat (first | apply Has.head | apply Take.head | apply Put.head | apply Has.tail | apply Take.tail | apply Put.tail)); done))); clear hS; rintro v w1 ⟨rfl, hS⟩)
            | (refine Run.regionQ_of (take5 hS (by focus ((repeat (first | apply Has.head | apply Take.head | apply Put.head | apply Has.tail | apply Take.tail | apply Put.tail)); done)) (by focus ((repeat (first | apply Has.head | apply Take.head | apply Put.head | apply Has.tail | apply Take.tail | apply Put.tail)); done)) (by focus ((repeat (first | apply Has.head | apply Take.head | apply Put.head | apply Has.tail | apply Take.tail | apply Put.tail)); done)) (by focus ((repeat (first | apply Has.head | apply Take.head | apply Put.head | apply Has.tail | apply Take.tail | apply Put.tail)); done)) (by focus ((repeat (first | apply Has.head | apply Take.head | apply Put.head | apply Has.tail | apply Take.tail | apply Put.tail)); done)) : St we ρ (KN kb p (refs.filter (has L)) K :: Arena p (room 100) L :: Row r (flat L ++ spare) 37 :: Row b6 [.int .i64 (room 100), .slice (some ⟨r, 0, none⟩) L.length c] 29 :: Row bk [.pointer (some ⟨kb, 0, none⟩)] 26 :: _) _) (by rfl) (by kernel_rfl) ?_; clear hS)
            | (apply RQ.callF; rfl; rfl; rfl; (show ∀ w, _ → Cl _ 15 [_, .int .i64 (nd L i).a] _ _; exact fun w hS => (kcan_is hh hca (hS.take2 (by focus ((repeat (first | apply Has.head | apply Take.head | apply Put.head | apply Has.tail | apply Take.tail | apply Put.tail)); done)) (by focus ((repeat (first | apply Has.head | apply Take.head | apply Put.head | apply Has.tail | apply Take.tail | apply Put.tail)); done)))).at2 (by focus ((repeat (first | apply Has.head | apply Take.head | apply Put.head | apply Has.tail | apply Take.tail | apply Put.tail)); done)) (by focus ((repeat (first | apply Has.head | apply Take.head | apply Put.head | apply Has.tail | apply Take.tail | apply Put.tail)); done))))
            | (apply RQ.callF; rfl; rfl; rfl; (show ∀ w, _ → Cl _ 15 [_, .int .i64 (nd L i).b] _ _; exact fun w hS => (kcan_is hh hcb (hS.take2 (by focus ((repeat (first | apply Has.head | apply Take.head | apply Put.head | apply Has.tail | apply Take.tail | apply Put.tail)); done)) (by focus ((repeat (first | apply Has.head | apply Take.head | apply Put.head | apply Has.tail | apply Take.tail | apply Put.tail)); done)))).at2 (by focus ((repeat (first | apply Has.head | apply Take.head | apply Put.head | apply Has.tail | apply Take.tail | apply Put.tail)); done)) (by focus ((repeat (first | apply Has.head | apply Take.head | apply Put.head | apply Has.tail | apply Take.tail | apply Put.tail)); done))))
            | (apply RQ.callF; rfl; rfl; rfl; (show ∀ w, _ → Cl _ 15 [_, .int .i64 i] _ _; exact fun w hS => (kcan_is hh hceq (hS.take2 (by focus ((repeat (first | apply Has.head | apply Take.head | apply Put.head | apply Has.tail | apply Take.tail | apply Put.tail)); done)) (by focus ((repeat (first | apply Has.head | apply Take.head | apply Put.head | apply Has.tail | apply Take.tail | apply Put.tail)); done)))).at2 (by focus ((repeat (first | apply Has.head | apply Take.head | apply Put.head | apply Has.tail | apply Take.tail | apply Put.tail)); done)) (by focus ((repeat (first | apply Has.head | apply Take.head | apply Put.head | apply Has.tail | apply Take.tail | apply Put.tail)); done))))
            | (apply RQ.callF; rfl; rfl; rfl; (show ∀ w, _ → Cl _ 16 [_, .int .i64 i] _ _; exact fun w hS => (knows_is hki (hS.take (by focus ((repeat (first | apply Has.head | apply Take.head | apply Put.head | apply Has.tail | apply Take.tail | apply Put.tail)); done)))).at (by focus ((repeat (first | apply Has.head | apply Take.head | apply Put.head | apply Has.tail | apply Take.tail | apply Put.tail)); done))))
            | (apply RQ.callV; rfl; rfl; rfl; rfl; (show ∀ w, _ → Cl _ _ [.int .i64 (nd L i).a, _, _] _ _; exact fun w hS => hpubA hS))
            | (apply RQ.callV; rfl; rfl; rfl; rfl; (show ∀ w, _ → Cl _ _ [.int .i64 (nd L i).b, _, _] _ _; exact fun w hS => hpubB hS))
            | (refine RQ.split ?_ ?_ <;> intro hc <;> try (first | (exfalso; omega) | exact absurd rfl hc | exact Bool.noConfusion hc))
            | (refine RQ.nil ?_; (try clear hS); intro w1 hS)
            | refine RQ.still (by exact Still.any) rfl ?_
            | refine RQ.yes rfl rfl ?_
            | refine RQ.no rfl rfl rfl rfl ?_
            | refine RQ.noUndef rfl rfl rfl ?_
            | refine Run.seq ?_
            | refine Run.region ?_
            | (refine RO.split ?_ ?_ <;> intro hc <;> try (first | (exfalso; omega) | exact absurd rfl hc | exact Bool.noConfusion hc))
            | refine RO.nil ?_
            | refine RO.still (by exact Still.any) hS rfl ?_
            | (apply RO.op; apply OP.box hS; rfl; rfl; rfl; clear hS; intro b w1 hS)
            | (apply RO.op; apply OP.alloc hS; rfl; rfl; rfl; clear hS; intro b w1 hS)
            | (apply RO.op; apply OP.store hS; rfl; rfl; rfl; rfl; rfl; (focus ((repeat (first | apply Has.head | apply Take.head | apply Put.head | apply Has.tail | apply Take.tail | apply Put.tail)); done)); rfl; rfl; clear hS; intro w1 hS)
            | (apply RO.op; apply OP.buildSlice hS; rfl; rfl; (exact eqAuto); rfl; rfl; rfl; rfl; rfl; clear hS; intro b w1 hS)
            | (apply RO.op; apply OP.makeMap hS; rfl; clear hS; intro b w1 hS)
            | refine RO.yes rfl rfl ?_
            | refine RO.no rfl rfl rfl rfl ?_
            | refine RO.noUndef rfl rfl rfl ?_
            | refine RO.noNone rfl rfl rfl ?_
            | refine Run.cond_true rfl ?_
            | refine Run.cond_false rfl ?_
            | refine Run.skip ?_
            | refine Run.block ?_
            | refine Run.inBlock ?_
            | refine Run.exit rfl ?_
          all_goals refine Run.weaken (by focus ((repeat (first | exact .nil | refine .cons rfl ?_)); done)) (ih (i + 1) _ ⟨by omega, hS.picks (by focus ((repeat (first | apply Picks.all | apply Picks.nil | (refine Picks.cons (by repeat (first | apply Take.head | apply Take.tail)) ?_) | apply Picks.drop)); done))⟩ (by omega))
    by_cases k3 : (nd L i).k = 3
    · have hc : canR L K (can L K) i = ((can L K (nd L i).a && (can L K (nd L i).b || pubK L K (nd L i).b)) || (can L K (nd L i).b && (can L K (nd L i).a || pubK L K (nd L i).a))) := by
        unfold canR; rw [if_neg (by omega), if_neg (by omega), if_neg (by omega), if_pos k3, Bool.or_comm (pubK L K (nd L i).b), Bool.or_comm (pubK L K (nd L i).a)]
      rw [hc] at hceq
      obtain ⟨ki, hki⟩ : ∃ b, K (i : Nat) = b := ⟨_, rfl⟩
      obtain ⟨ca, hca⟩ : ∃ b, can L K (nd L i).a = b := ⟨_, rfl⟩
      obtain ⟨cb, hcb⟩ : ∃ b, can L K (nd L i).b = b := ⟨_, rfl⟩
      obtain ⟨pa, hpa⟩ : ∃ b, pubK L K (nd L i).a = b := ⟨_, rfl⟩
      obtain ⟨pb, hpb⟩ : ∃ b, pubK L K (nd L i).b = b := ⟨_, rfl⟩
      rw [hki, hca, hcb, hpa, hpb] at hceq
      have hpubA : ∀ {w : World} {G : List HP}, St we ρ (KN kb p (refs.filter (has L)) K :: Arena p (room 100) L :: Row r (flat L ++ spare) 37 :: Row b6 [.int .i64 (room 100), .slice (some ⟨r, 0, none⟩) L.length c] 29 :: Row bk [.pointer (some ⟨kb, 0, none⟩)] 26 :: G) w → _ := fun {w G} hS => sealsPublic (we := we) (ρ := ρ) (F := G) (w := w) (x := (nd L i).a) g hh hS
      have hpubB : ∀ {w : World} {G : List HP}, St we ρ (KN kb p (refs.filter (has L)) K :: Arena p (room 100) L :: Row r (flat L ++ spare) 37 :: Row b6 [.int .i64 (room 100), .slice (some ⟨r, 0, none⟩) L.length c] 29 :: Row bk [.pointer (some ⟨kb, 0, none⟩)] 26 :: G) w → _ := fun {w G} hS => sealsPublic (we := we) (ρ := ρ) (F := G) (w := w) (x := (nd L i).b) g hh hS
      simp only [hca, hpa] at hpubA
      simp only [hcb, hpb] at hpubB
      cases ki with
      | true =>
        repeat' first
          | (refine RO.still (by apply Still.loadAgg; rfl; rfl; (exact eqAuto); (exact Rd.any); exact fn; rfl) hS rfl ?_)
          | (apply RO.op; apply OP.callF; rfl; rfl; rfl; show Cl _ 16 [_, .int .i64 i] _ _; exact knows_is hki (hS.take (by focus ((repeat (first | apply Has.head | apply Take.head | apply Put.head | apply Has.tail | apply Take.tail | apply Put.tail)); done))); clear hS; rintro v w1 ⟨rfl, hS⟩)
          | (apply RO.op; apply OP.callF; rfl; rfl; rfl; show Cl _ 16 [_, .int .i64 (nd L i).c] _ _; exact knows_is hkc (hS.take (by focus ((repeat (first | apply Has.head | apply Take.head | apply Put.head | apply Has.tail | apply Take.tail | apply Put.tail)); done))); clear hS; rintro v w1 ⟨rfl, hS⟩)
          | (apply RO.op; apply OP.callF; rfl; rfl; rfl; show Cl _ 15 [_, .int .i64 (nd L i).a] _ _; exact kcan_is hh hca (hS.take2 (by focus ((repeat (first | apply Has.head | apply Take.head | apply Put.head | apply Has.tail | apply Take.tail | apply Put.tail)); done)) (by focus ((repeat (first | apply Has.head | apply Take.head | apply Put.head | apply Has.tail | apply Take.tail | apply Put.tail)); done))); clear hS; rintro v w1 ⟨rfl, hS⟩)
          | (refine Run.regionQ_of (take5 hS (by focus ((repeat (first | apply Has.head | apply Take.head | apply Put.head | apply Has.tail | apply Take.tail | apply Put.tail)); done)) (by focus ((repeat (first | apply Has.head | apply Take.head | apply Put.head | apply Has.tail | apply Take.tail | apply Put.tail)); done)) (by focus ((repeat (first | apply Has.head | apply Take.head | apply Put.head | apply Has.tail | apply Take.tail | apply Put.tail)); done)) (by focus ((repeat (first | apply Has.head | apply Take.head | apply Put.head | apply Has.tail | apply Take.tail | apply Put.tail)); done)) (by focus ((repeat (first | apply Has.head | apply Take.head | apply Put.head | apply Has.tail | apply Take.tail | apply Put.tail)); done)) : St we ρ (KN kb p (refs.filter (has L)) K :: Arena p (room 100) L :: Row r (flat L ++ spare) 37 :: Row b6 [.int .i64 (room 100), .slice (some ⟨r, 0, none⟩) L.length c] 29 :: Row bk [.pointer (some ⟨kb, 0, none⟩)] 26 :: _) _) (by rfl) (by kernel_rfl) ?_; clear hS)
          | (apply RQ.callF; rfl; rfl; rfl; (show ∀ w, _ → Cl _ 15 [_, .int .i64 (nd L i).a] _ _; exact fun w hS => (kcan_is hh hca (hS.take2 (by focus ((repeat (first | apply Has.head | apply Take.head | apply Put.head | apply Has.tail | apply Take.tail | apply Put.tail)); done)) (by focus ((repeat (first | apply Has.head | apply Take.head | apply Put.head | apply Has.tail | apply Take.tail | apply Put.tail)); done)))).at2 (by focus ((repeat (first | apply Has.head | apply Take.head | apply Put.head | apply Has.tail | apply Take.tail | apply Put.tail)); done)) (by focus ((repeat (first | apply Has.head | apply Take.head | apply Put.head | apply Has.tail | apply Take.tail | apply Put.tail)); done))))
          | (apply RQ.callF; rfl; rfl; rfl; (show ∀ w, _ → Cl _ 15 [_, .int .i64 (nd L i).b] _ _; exact fun w hS => (kcan_is hh hcb (hS.take2 (by focus ((repeat (first | apply Has.head | apply Take.head | apply Put.head | apply Has.tail | apply Take.tail | apply Put.tail)); done)) (by focus ((repeat (first | apply Has.head | apply Take.head | apply Put.head | apply Has.tail | apply Take.tail | apply Put.tail)); done)))).at2 (by focus ((repeat (first | apply Has.head | apply Take.head | apply Put.head | apply Has.tail | apply Take.tail | apply Put.tail)); done)) (by focus ((repeat (first | apply Has.head | apply Take.head | apply Put.head | apply Has.tail | apply Take.tail | apply Put.tail)); done))))
          | (apply RQ.callF; rfl; rfl; rfl; (show ∀ w, _ → Cl _ 15 [_, .int .i64 i] _ _; exact fun w hS => (kcan_is hh hceq (hS.take2 (by focus ((repeat (first | apply Has.head | apply Take.head | apply Put.head | apply Has.tail | apply Take.tail | apply Put.tail)); done)) (by focus ((repeat (first | apply Has.head | apply Take.head | apply Put.head | apply Has.tail | apply Take.tail | apply Put.tail)); done)))).at2 (by focus ((repeat (first | apply Has.head | apply Take.head | apply Put.head | apply Has.tail | apply Take.tail | apply Put.tail)); done)) (by focus ((repeat (first | apply Has.head | apply Take.head | apply Put.head | apply Has.tail | apply Take.tail | apply Put.tail)); done))))
          | (apply RQ.callF; rfl; rfl; rfl; (show ∀ w, _ → Cl _ 16 [_, .int .i64 i] _ _; exact fun w hS => (knows_is hki (hS.take (by focus ((repeat (first | apply Has.head | apply Take.head | apply Put.head | apply Has.tail | apply Take.tail | apply Put.tail)); done)))).at (by focus ((repeat (first | apply Has.head | apply Take.head | apply Put.head | apply Has.tail | apply Take.tail | apply Put.tail)); done))))
          | (apply RQ.callV; rfl; rfl; rfl; rfl; (show ∀ w, _ → Cl _ _ [.int .i64 (nd L i).a, _, _] _ _; exact fun w hS => hpubA hS))
          | (apply RQ.callV; rfl; rfl; rfl; rfl; (show ∀ w, _ → Cl _ _ [.int .i64 (nd L i).b, _, _] _ _; exact fun w hS => hpubB hS))
          | (refine RQ.split ?_ ?_ <;> intro hc <;> try (first | (exfalso; omega) | exact absurd rfl hc | exact Bool.noConfusion hc))
          | (refine RQ.nil ?_; (try clear hS); intro w1 hS)
          | refine RQ.still (by exact Still.any) rfl ?_
          | refine RQ.yes rfl rfl ?_
          | refine RQ.no rfl rfl rfl rfl ?_
          | refine RQ.noUndef rfl rfl rfl ?_
          | refine Run.seq ?_
          | refine Run.region ?_
          | (refine RO.split ?_ ?_ <;> intro hc <;> try (first | (exfalso; omega) | exact absurd rfl hc | exact Bool.noConfusion hc))
          | refine RO.nil ?_
          | refine RO.still (by exact Still.any) hS rfl ?_
          | (apply RO.op; apply OP.box hS; rfl; rfl; rfl; clear hS; intro b w1 hS)
          | (apply RO.op; apply OP.alloc hS; rfl; rfl; rfl; clear hS; intro b w1 hS)
          | (apply RO.op; apply OP.store hS; rfl; rfl; rfl; rfl; rfl; (focus ((repeat (first | apply Has.head | apply Take.head | apply Put.head | apply Has.tail | apply Take.tail | apply Put.tail)); done)); rfl; rfl; clear hS; intro w1 hS)
          | (apply RO.op; apply OP.buildSlice hS; rfl; rfl; (exact eqAuto); rfl; rfl; rfl; rfl; rfl; clear hS; intro b w1 hS)
          | (apply RO.op; apply OP.makeMap hS; rfl; clear hS; intro b w1 hS)
          | refine RO.yes rfl rfl ?_
          | refine RO.no rfl rfl rfl rfl ?_
          | refine RO.noUndef rfl rfl rfl ?_
          | refine RO.noNone rfl rfl rfl ?_
          | refine Run.cond_true rfl ?_
          | refine Run.cond_false rfl ?_
          | refine Run.skip ?_
          | refine Run.block ?_
          | refine Run.inBlock ?_
          | refine Run.exit rfl ?_
        all_goals refine Run.weaken (by focus ((repeat (first | exact .nil | refine .cons rfl ?_)); done)) (ih (i + 1) _ ⟨by omega, hS.picks (by focus ((repeat (first | apply Picks.all | apply Picks.nil | (refine Picks.cons (by repeat (first | apply Take.head | apply Take.tail)) ?_) | apply Picks.drop)); done))⟩ (by omega))
      | false =>
        cases ca with
        | true =>
          cases cb with
          | true =>
            repeat' first
              | (refine RO.still (by apply Still.loadAgg; rfl; rfl; (exact eqAuto); (exact Rd.any); exact fn; rfl) hS rfl ?_)
              | (apply RO.op; apply OP.callF; rfl; rfl; rfl; show Cl _ 16 [_, .int .i64 i] _ _; exact knows_is hki (hS.take (by focus ((repeat (first | apply Has.head | apply Take.head | apply Put.head | apply Has.tail | apply Take.tail | apply Put.tail)); done))); clear hS; rintro v w1 ⟨rfl, hS⟩)
              | (apply RO.op; apply OP.callF; rfl; rfl; rfl; show Cl _ 16 [_, .int .i64 (nd L i).c] _ _; exact knows_is hkc (hS.take (by focus ((repeat (first | apply Has.head | apply Take.head | apply Put.head | apply Has.tail | apply Take.tail | apply Put.tail)); done))); clear hS; rintro v w1 ⟨rfl, hS⟩)
              | (apply RO.op; apply OP.callF; rfl; rfl; rfl; show Cl _ 15 [_, .int .i64 (nd L i).a] _ _; exact kcan_is hh hca (hS.take2 (by focus ((repeat (first | apply Has.head | apply Take.head | apply Put.head | apply Has.tail | apply Take.tail | apply Put.tail)); done)) (by focus ((repeat (first | apply Has.head | apply Take.head | apply Put.head | apply Has.tail | apply Take.tail | apply Put.tail)); done))); clear hS; rintro v w1 ⟨rfl, hS⟩)
              | (refine Run.regionQ_of (take5 hS (by focus ((repeat (first | apply Has.head | apply Take.head | apply Put.head | apply Has.tail | apply Take.tail | apply Put.tail)); done)) (by focus ((repeat (first | apply Has.head | apply Take.head | apply Put.head | apply Has.tail | apply Take.tail | apply Put.tail)); done)) (by focus ((repeat (first | apply Has.head | apply Take.head | apply Put.head | apply Has.tail | apply Take.tail | apply Put.tail)); done)) (by focus ((repeat (first | apply Has.head | apply Take.head | apply Put.head | apply Has.tail | apply Take.tail | apply Put.tail)); done)) (by focus ((repeat (first | apply Has.head | apply Take.head | apply Put.head | apply Has.tail | apply Take.tail | apply Put.tail)); done)) : St we ρ (KN kb p (refs.filter (has L)) K :: Arena p (room 100) L :: Row r (flat L ++ spare) 37 :: Row b6 [.int .i64 (room 100), .slice (some ⟨r, 0, none⟩) L.length c] 29 :: Row bk [.pointer (some ⟨kb, 0, none⟩)] 26 :: _) _) (by rfl) (by kernel_rfl) ?_; clear hS)
              | (apply RQ.callF; rfl; rfl; rfl; (show ∀ w, _ → Cl _ 15 [_, .int .i64 (nd L i).a] _ _; exact fun w hS => (kcan_is hh hca (hS.take2 (by focus ((repeat (first | apply Has.head | apply Take.head | apply Put.head | apply Has.tail | apply Take.tail | apply Put.tail)); done)) (by focus ((repeat (first | apply Has.head | apply Take.head | apply Put.head | apply Has.tail | apply Take.tail | apply Put.tail)); done)))).at2 (by focus ((repeat (first | apply Has.head | apply Take.head | apply Put.head | apply Has.tail | apply Take.tail | apply Put.tail)); done)) (by focus ((repeat (first | apply Has.head | apply Take.head | apply Put.head | apply Has.tail | apply Take.tail | apply Put.tail)); done))))
              | (apply RQ.callF; rfl; rfl; rfl; (show ∀ w, _ → Cl _ 15 [_, .int .i64 (nd L i).b] _ _; exact fun w hS => (kcan_is hh hcb (hS.take2 (by focus ((repeat (first | apply Has.head | apply Take.head | apply Put.head | apply Has.tail | apply Take.tail | apply Put.tail)); done)) (by focus ((repeat (first | apply Has.head | apply Take.head | apply Put.head | apply Has.tail | apply Take.tail | apply Put.tail)); done)))).at2 (by focus ((repeat (first | apply Has.head | apply Take.head | apply Put.head | apply Has.tail | apply Take.tail | apply Put.tail)); done)) (by focus ((repeat (first | apply Has.head | apply Take.head | apply Put.head | apply Has.tail | apply Take.tail | apply Put.tail)); done))))
              | (apply RQ.callF; rfl; rfl; rfl; (show ∀ w, _ → Cl _ 15 [_, .int .i64 i] _ _; exact fun w hS => (kcan_is hh hceq (hS.take2 (by focus ((repeat (first | apply Has.head | apply Take.head | apply Put.head | apply Has.tail | apply Take.tail | apply Put.tail)); done)) (by focus ((repeat (first | apply Has.head | apply Take.head | apply Put.head | apply Has.tail | apply Take.tail | apply Put.tail)); done)))).at2 (by focus ((repeat (first | apply Has.head | apply Take.head | apply Put.head | apply Has.tail | apply Take.tail | apply Put.tail)); done)) (by focus ((repeat (first | apply Has.head | apply Take.head | apply Put.head | apply Has.tail | apply Take.tail | apply Put.tail)); done))))
              | (apply RQ.callF; rfl; rfl; rfl; (show ∀ w, _ → Cl _ 16 [_, .int .i64 i] _ _; exact fun w hS => (knows_is hki (hS.take (by focus ((repeat (first | apply Has.head | apply Take.head | apply Put.head | apply Has.tail | apply Take.tail | apply Put.tail)); done)))).at (by focus ((repeat (first | apply Has.head | apply Take.head | apply Put.head | apply Has.tail | apply Take.tail | apply Put.tail)); done))))
              | (apply RQ.callV; rfl; rfl; rfl; rfl; (show ∀ w, _ → Cl _ _ [.int .i64 (nd L i).a, _, _] _ _; exact fun w hS => hpubA hS))
              | (apply RQ.callV; rfl; rfl; rfl; rfl; (show ∀ w, _ → Cl _ _ [.int .i64 (nd L i).b, _, _] _ _; exact fun w hS => hpubB hS))
              | (refine RQ.split ?_ ?_ <;> intro hc <;> try (first | (exfalso; omega) | exact absurd rfl hc | exact Bool.noConfusion hc))
              | (refine RQ.nil ?_; (try clear hS); intro w1 hS)
              | refine RQ.still (by exact Still.any) rfl ?_
              | refine RQ.yes rfl rfl ?_
              | refine RQ.no rfl rfl rfl rfl ?_
              | refine RQ.noUndef rfl rfl rfl ?_
              | refine Run.seq ?_
              | refine Run.region ?_
              | (refine RO.split ?_ ?_ <;> intro hc <;> try (first | (exfalso; omega) | exact absurd rfl hc | exact Bool.noConfusion hc))
              | refine RO.nil ?_
              | refine RO.still (by exact Still.any) hS rfl ?_
              | (apply RO.op; apply OP.box hS; rfl; rfl; rfl; clear hS; intro b w1 hS)
              | (apply RO.op; apply OP.alloc hS; rfl; rfl; rfl; clear hS; intro b w1 hS)
              | (apply RO.op; apply OP.store hS; rfl; rfl; rfl; rfl; rfl; (focus ((repeat (first | apply Has.head | apply Take.head | apply Put.head | apply Has.tail | apply Take.tail | apply Put.tail)); done)); rfl; rfl; clear hS; intro w1 hS)
              | (apply RO.op; apply OP.buildSlice hS; rfl; rfl; (exact eqAuto); rfl; rfl; rfl; rfl; rfl; clear hS; intro b w1 hS)
              | (apply RO.op; apply OP.makeMap hS; rfl; clear hS; intro b w1 hS)
              | refine RO.yes rfl rfl ?_
              | refine RO.no rfl rfl rfl rfl ?_
              | refine RO.noUndef rfl rfl rfl ?_
              | refine RO.noNone rfl rfl rfl ?_
              | refine Run.cond_true rfl ?_
              | refine Run.cond_false rfl ?_
              | refine Run.skip ?_
              | refine Run.block ?_
              | refine Run.inBlock ?_
              | refine Run.exit rfl ?_
            all_goals refine Run.weaken (by focus ((repeat (first | exact .nil | refine .cons rfl ?_)); done)) (ih (i + 1) _ ⟨by omega, hS.picks (by focus ((repeat (first | apply Picks.all | apply Picks.nil | (refine Picks.cons (by repeat (first | apply Take.head | apply Take.tail)) ?_) | apply Picks.drop)); done))⟩ (by omega))
          | false =>
            cases pb with
            | true =>
              repeat' first
                | (refine RO.still (by apply Still.loadAgg; rfl; rfl; (exact eqAuto); (exact Rd.any); exact fn; rfl) hS rfl ?_)
                | (apply RO.op; apply OP.callF; rfl; rfl; rfl; show Cl _ 16 [_, .int .i64 i] _ _; exact knows_is hki (hS.take (by focus ((repeat (first | apply Has.head | apply Take.head | apply Put.head | apply Has.tail | apply Take.tail | apply Put.tail)); done))); clear hS; rintro v w1 ⟨rfl, hS⟩)
                | (apply RO.op; apply OP.callF; rfl; rfl; rfl; show Cl _ 16 [_, .int .i64 (nd L i).c] _ _; exact knows_is hkc (hS.take (by focus ((repeat (first | apply Has.head | apply Take.head | apply Put.head | apply Has.tail | apply Take.tail | apply Put.tail)); done))); clear hS; rintro v w1 ⟨rfl, hS⟩)
                | (apply RO.op; apply OP.callF; rfl; rfl; rfl; show Cl _ 15 [_, .int .i64 (nd L i).a] _ _; exact kcan_is hh hca (hS.take2 (by focus ((repeat (first | apply Has.head | apply Take.head | apply Put.head | apply Has.tail | apply Take.tail | apply Put.tail)); done)) (by focus ((repeat (first | apply Has.head | apply Take.head | apply Put.head | apply Has.tail | apply Take.tail | apply Put.tail)); done))); clear hS; rintro v w1 ⟨rfl, hS⟩)
                | (refine Run.regionQ_of (take5 hS (by focus ((repeat (first | apply Has.head | apply Take.head | apply Put.head | apply Has.tail | apply Take.tail | apply Put.tail)); done)) (by focus ((repeat (first | apply Has.head | apply Take.head | apply Put.head | apply Has.tail | apply Take.tail | apply Put.tail)); done)) (by focus ((repeat (first | apply Has.head | apply Take.head | apply Put.head | apply Has.tail | apply Take.tail | apply Put.tail)); done)) (by focus ((repeat (first | apply Has.head | apply Take.head | apply Put.head | apply Has.tail | apply Take.tail | apply Put.tail)); done)) (by focus ((repeat (first | apply Has.head | apply Take.head | apply Put.head | apply Has.tail | apply Take.tail | apply Put.tail)); done)) : St we ρ (KN kb p (refs.filter (has L)) K :: Arena p (room 100) L :: Row r (flat L ++ spare) 37 :: Row b6 [.int .i64 (room 100), .slice (some ⟨r, 0, none⟩) L.length c] 29 :: Row bk [.pointer (some ⟨kb, 0, none⟩)] 26 :: _) _) (by rfl) (by kernel_rfl) ?_; clear hS)
                | (apply RQ.callF; rfl; rfl; rfl; (show ∀ w, _ → Cl _ 15 [_, .int .i64 (nd L i).a] _ _; exact fun w hS => (kcan_is hh hca (hS.take2 (by focus ((repeat (first | apply Has.head | apply Take.head | apply Put.head | apply Has.tail | apply Take.tail | apply Put.tail)); done)) (by focus ((repeat (first | apply Has.head | apply Take.head | apply Put.head | apply Has.tail | apply Take.tail | apply Put.tail)); done)))).at2 (by focus ((repeat (first | apply Has.head | apply Take.head | apply Put.head | apply Has.tail | apply Take.tail | apply Put.tail)); done)) (by focus ((repeat (first | apply Has.head | apply Take.head | apply Put.head | apply Has.tail | apply Take.tail | apply Put.tail)); done))))
                | (apply RQ.callF; rfl; rfl; rfl; (show ∀ w, _ → Cl _ 15 [_, .int .i64 (nd L i).b] _ _; exact fun w hS => (kcan_is hh hcb (hS.take2 (by focus ((repeat (first | apply Has.head | apply Take.head | apply Put.head | apply Has.tail | apply Take.tail | apply Put.tail)); done)) (by focus ((repeat (first | apply Has.head | apply Take.head | apply Put.head | apply Has.tail | apply Take.tail | apply Put.tail)); done)))).at2 (by focus ((repeat (first | apply Has.head | apply Take.head | apply Put.head | apply Has.tail | apply Take.tail | apply Put.tail)); done)) (by focus ((repeat (first | apply Has.head | apply Take.head | apply Put.head | apply Has.tail | apply Take.tail | apply Put.tail)); done))))
                | (apply RQ.callF; rfl; rfl; rfl; (show ∀ w, _ → Cl _ 15 [_, .int .i64 i] _ _; exact fun w hS => (kcan_is hh hceq (hS.take2 (by focus ((repeat (first | apply Has.head | apply Take.head | apply Put.head | apply Has.tail | apply Take.tail | apply Put.tail)); done)) (by focus ((repeat (first | apply Has.head | apply Take.head | apply Put.head | apply Has.tail | apply Take.tail | apply Put.tail)); done)))).at2 (by focus ((repeat (first | apply Has.head | apply Take.head | apply Put.head | apply Has.tail | apply Take.tail | apply Put.tail)); done)) (by focus ((repeat (first | apply Has.head | apply Take.head | apply Put.head | apply Has.tail | apply Take.tail | apply Put.tail)); done))))
                | (apply RQ.callF; rfl; rfl; rfl; (show ∀ w, _ → Cl _ 16 [_, .int .i64 i] _ _; exact fun w hS => (knows_is hki (hS.take (by focus ((repeat (first | apply Has.head | apply Take.head | apply Put.head | apply Has.tail | apply Take.tail | apply Put.tail)); done)))).at (by focus ((repeat (first | apply Has.head | apply Take.head | apply Put.head | apply Has.tail | apply Take.tail | apply Put.tail)); done))))
                | (apply RQ.callV; rfl; rfl; rfl; rfl; (show ∀ w, _ → Cl _ _ [.int .i64 (nd L i).a, _, _] _ _; exact fun w hS => hpubA hS))
                | (apply RQ.callV; rfl; rfl; rfl; rfl; (show ∀ w, _ → Cl _ _ [.int .i64 (nd L i).b, _, _] _ _; exact fun w hS => hpubB hS))
                | (refine RQ.split ?_ ?_ <;> intro hc <;> try (first | (exfalso; omega) | exact absurd rfl hc | exact Bool.noConfusion hc))
                | (refine RQ.nil ?_; (try clear hS); intro w1 hS)
                | refine RQ.still (by exact Still.any) rfl ?_
                | refine RQ.yes rfl rfl ?_
                | refine RQ.no rfl rfl rfl rfl ?_
                | refine RQ.noUndef rfl rfl rfl ?_
                | refine Run.seq ?_
                | refine Run.region ?_
                | (refine RO.split ?_ ?_ <;> intro hc <;> try (first | (exfalso; omega) | exact absurd rfl hc | exact Bool.noConfusion hc))
                | refine RO.nil ?_
                | refine RO.still (by exact Still.any) hS rfl ?_
                | (apply RO.op; apply OP.box hS; rfl; rfl; rfl; clear hS; intro b w1 hS)
                | (apply RO.op; apply OP.alloc hS; rfl; rfl; rfl; clear hS; intro b w1 hS)
                | (apply RO.op; apply OP.store hS; rfl; rfl; rfl; rfl; rfl; (focus ((repeat (first | apply Has.head | apply Take.head | apply Put.head | apply Has.tail | apply Take.tail | apply Put.tail)); done)); rfl; rfl; clear hS; intro w1 hS)
                | (apply RO.op; apply OP.buildSlice hS; rfl; rfl; (exact eqAuto); rfl; rfl; rfl; rfl; rfl; clear hS; intro b w1 hS)
                | (apply RO.op; apply OP.makeMap hS; rfl; clear hS; intro b w1 hS)
                | refine RO.yes rfl rfl ?_
                | refine RO.no rfl rfl rfl rfl ?_
                | refine RO.noUndef rfl rfl rfl ?_
                | refine RO.noNone rfl rfl rfl ?_
                | refine Run.cond_true rfl ?_
                | refine Run.cond_false rfl ?_
                | refine Run.skip ?_
                | refine Run.block ?_
                | refine Run.inBlock ?_
                | refine Run.exit rfl ?_
              all_goals refine Run.weaken (by focus ((repeat (first | exact .nil | refine .cons rfl ?_)); done)) (ih (i + 1) _ ⟨by omega, hS.picks (by focus ((repeat (first | apply Picks.all | apply Picks.nil | (refine Picks.cons (by repeat (first | apply Take.head | apply Take.tail)) ?_) | apply Picks.drop)); done))⟩ (by omega))
            | false =>
              repeat' first
                | (refine RO.still (by apply Still.loadAgg; rfl; rfl; (exact eqAuto); (exact Rd.any); exact fn; rfl) hS rfl ?_)
                | (apply RO.op; apply OP.callF; rfl; rfl; rfl; show Cl _ 16 [_, .int .i64 i] _ _; exact knows_is hki (hS.take (by focus ((repeat (first | apply Has.head | apply Take.head | apply Put.head | apply Has.tail | apply Take.tail | apply Put.tail)); done))); clear hS; rintro v w1 ⟨rfl, hS⟩)
                | (apply RO.op; apply OP.callF; rfl; rfl; rfl; show Cl _ 16 [_, .int .i64 (nd L i).c] _ _; exact knows_is hkc (hS.take (by focus ((repeat (first | apply Has.head | apply Take.head | apply Put.head | apply Has.tail | apply Take.tail | apply Put.tail)); done))); clear hS; rintro v w1 ⟨rfl, hS⟩)
                | (apply RO.op; apply OP.callF; rfl; rfl; rfl; show Cl _ 15 [_, .int .i64 (nd L i).a] _ _; exact kcan_is hh hca (hS.take2 (by focus ((repeat (first | apply Has.head | apply Take.head | apply Put.head | apply Has.tail | apply Take.tail | apply Put.tail)); done)) (by focus ((repeat (first | apply Has.head | apply Take.head | apply Put.head | apply Has.tail | apply Take.tail | apply Put.tail)); done))); clear hS; rintro v w1 ⟨rfl, hS⟩)
                | (refine Run.regionQ_of (take5 hS (by focus ((repeat (first | apply Has.head | apply Take.head | apply Put.head | apply Has.tail | apply Take.tail | apply Put.tail)); done)) (by focus ((repeat (first | apply Has.head | apply Take.head | apply Put.head | apply Has.tail | apply Take.tail | apply Put.tail)); done)) (by focus ((repeat (first | apply Has.head | apply Take.head | apply Put.head | apply Has.tail | apply Take.tail | apply Put.tail)); done)) (by focus ((repeat (first | apply Has.head | apply Take.head | apply Put.head | apply Has.tail | apply Take.tail | apply Put.tail)); done)) (by focus ((repeat (first | apply Has.head | apply Take.head | apply Put.head | apply Has.tail | apply Take.tail | apply Put.tail)); done)) : St we ρ (KN kb p (refs.filter (has L)) K :: Arena p (room 100) L :: Row r (flat L ++ spare) 37 :: Row b6 [.int .i64 (room 100), .slice (some ⟨r, 0, none⟩) L.length c] 29 :: Row bk [.pointer (some ⟨kb, 0, none⟩)] 26 :: _) _) (by rfl) (by kernel_rfl) ?_; clear hS)
                | (apply RQ.callF; rfl; rfl; rfl; (show ∀ w, _ → Cl _ 15 [_, .int .i64 (nd L i).a] _ _; exact fun w hS => (kcan_is hh hca (hS.take2 (by focus ((repeat (first | apply Has.head | apply Take.head | apply Put.head | apply Has.tail | apply Take.tail | apply Put.tail)); done)) (by focus ((repeat (first | apply Has.head | apply Take.head | apply Put.head | apply Has.tail | apply Take.tail | apply Put.tail)); done)))).at2 (by focus ((repeat (first | apply Has.head | apply Take.head | apply Put.head | apply Has.tail | apply Take.tail | apply Put.tail)); done)) (by focus ((repeat (first | apply Has.head | apply Take.head | apply Put.head | apply Has.tail | apply Take.tail | apply Put.tail)); done))))
                | (apply RQ.callF; rfl; rfl; rfl; (show ∀ w, _ → Cl _ 15 [_, .int .i64 (nd L i).b] _ _; exact fun w hS => (kcan_is hh hcb (hS.take2 (by focus ((repeat (first | apply Has.head | apply Take.head | apply Put.head | apply Has.tail | apply Take.tail | apply Put.tail)); done)) (by focus ((repeat (first | apply Has.head | apply Take.head | apply Put.head | apply Has.tail | apply Take.tail | apply Put.tail)); done)))).at2 (by focus ((repeat (first | apply Has.head | apply Take.head | apply Put.head | apply Has.tail | apply Take.tail | apply Put.tail)); done)) (by focus ((repeat (first | apply Has.head | apply Take.head | apply Put.head | apply Has.tail | apply Take.tail | apply Put.tail)); done))))
                | (apply RQ.callF; rfl; rfl; rfl; (show ∀ w, _ → Cl _ 15 [_, .int .i64 i] _ _; exact fun w hS => (kcan_is hh hceq (hS.take2 (by focus ((repeat (first | apply Has.head | apply Take.head | apply Put.head | apply Has.tail | apply Take.tail | apply Put.tail)); done)) (by focus ((repeat (first | apply Has.head | apply Take.head | apply Put.head | apply Has.tail | apply Take.tail | apply Put.tail)); done)))).at2 (by focus ((repeat (first | apply Has.head | apply Take.head | apply Put.head | apply Has.tail | apply Take.tail | apply Put.tail)); done)) (by focus ((repeat (first | apply Has.head | apply Take.head | apply Put.head | apply Has.tail | apply Take.tail | apply Put.tail)); done))))
                | (apply RQ.callF; rfl; rfl; rfl; (show ∀ w, _ → Cl _ 16 [_, .int .i64 i] _ _; exact fun w hS => (knows_is hki (hS.take (by focus ((repeat (first | apply Has.head | apply Take.head | apply Put.head | apply Has.tail | apply Take.tail | apply Put.tail)); done)))).at (by focus ((repeat (first | apply Has.head | apply Take.head | apply Put.head | apply Has.tail | apply Take.tail | apply Put.tail)); done))))
                | (apply RQ.callV; rfl; rfl; rfl; rfl; (show ∀ w, _ → Cl _ _ [.int .i64 (nd L i).a, _, _] _ _; exact fun w hS => hpubA hS))
                | (apply RQ.callV; rfl; rfl; rfl; rfl; (show ∀ w, _ → Cl _ _ [.int .i64 (nd L i).b, _, _] _ _; exact fun w hS => hpubB hS))
                | (refine RQ.split ?_ ?_ <;> intro hc <;> try (first | (exfalso; omega) | exact absurd rfl hc | exact Bool.noConfusion hc))
                | (refine RQ.nil ?_; (try clear hS); intro w1 hS)
                | refine RQ.still (by exact Still.any) rfl ?_
                | refine RQ.yes rfl rfl ?_
                | refine RQ.no rfl rfl rfl rfl ?_
                | refine RQ.noUndef rfl rfl rfl ?_
                | refine Run.seq ?_
                | refine Run.region ?_
                | (refine RO.split ?_ ?_ <;> intro hc <;> try (first | (exfalso; omega) | exact absurd rfl hc | exact Bool.noConfusion hc))
                | refine RO.nil ?_
                | refine RO.still (by exact Still.any) hS rfl ?_
                | (apply RO.op; apply OP.box hS; rfl; rfl; rfl; clear hS; intro b w1 hS)
                | (apply RO.op; apply OP.alloc hS; rfl; rfl; rfl; clear hS; intro b w1 hS)
                | (apply RO.op; apply OP.store hS; rfl; rfl; rfl; rfl; rfl; (focus ((repeat (first | apply Has.head | apply Take.head | apply Put.head | apply Has.tail | apply Take.tail | apply Put.tail)); done)); rfl; rfl; clear hS; intro w1 hS)
                | (apply RO.op; apply OP.buildSlice hS; rfl; rfl; (exact eqAuto); rfl; rfl; rfl; rfl; rfl; clear hS; intro b w1 hS)
                | (apply RO.op; apply OP.makeMap hS; rfl; clear hS; intro b w1 hS)
                | refine RO.yes rfl rfl ?_
                | refine RO.no rfl rfl rfl rfl ?_
                | refine RO.noUndef rfl rfl rfl ?_
                | refine RO.noNone rfl rfl rfl ?_
                | refine Run.cond_true rfl ?_
                | refine Run.cond_false rfl ?_
                | refine Run.skip ?_
                | refine Run.block ?_
                | refine Run.inBlock ?_
                | refine Run.exit rfl ?_
              all_goals refine Run.weaken (by focus ((repeat (first | exact .nil | refine .cons rfl ?_)); done)) (ih (i + 1) _ ⟨by omega, hS.picks (by focus ((repeat (first | apply Picks.all | apply Picks.nil | (refine Picks.cons (by repeat (first | apply Take.head | apply Take.tail)) ?_) | apply Picks.drop)); done))⟩ (by omega))
        | false =>
          cases cb with
          | false =>
            repeat' first
              | (refine RO.still (by apply Still.loadAgg; rfl; rfl; (exact eqAuto); (exact Rd.any); exact fn; rfl) hS rfl ?_)
              | (apply RO.op; apply OP.callF; rfl; rfl; rfl; show Cl _ 16 [_, .int .i64 i] _ _; exact knows_is hki (hS.take (by focus ((repeat (first | apply Has.head | apply Take.head | apply Put.head | apply Has.tail | apply Take.tail | apply Put.tail)); done))); clear hS; rintro v w1 ⟨rfl, hS⟩)
              | (apply RO.op; apply OP.callF; rfl; rfl; rfl; show Cl _ 16 [_, .int .i64 (nd L i).c] _ _; exact knows_is hkc (hS.take (by focus ((repeat (first | apply Has.head | apply Take.head | apply Put.head | apply Has.tail | apply Take.tail | apply Put.tail)); done))); clear hS; rintro v w1 ⟨rfl, hS⟩)
              | (apply RO.op; apply OP.callF; rfl; rfl; rfl; show Cl _ 15 [_, .int .i64 (nd L i).a] _ _; exact kcan_is hh hca (hS.take2 (by focus ((repeat (first | apply Has.head | apply Take.head | apply Put.head | apply Has.tail | apply Take.tail | apply Put.tail)); done)) (by focus ((repeat (first | apply Has.head | apply Take.head | apply Put.head | apply Has.tail | apply Take.tail | apply Put.tail)); done))); clear hS; rintro v w1 ⟨rfl, hS⟩)
              | (refine Run.regionQ_of (take5 hS (by focus ((repeat (first | apply Has.head | apply Take.head | apply Put.head | apply Has.tail | apply Take.tail | apply Put.tail)); done)) (by focus ((repeat (first | apply Has.head | apply Take.head | apply Put.head | apply Has.tail | apply Take.tail | apply Put.tail)); done)) (by focus ((repeat (first | apply Has.head | apply Take.head | apply Put.head | apply Has.tail | apply Take.tail | apply Put.tail)); done)) (by focus ((repeat (first | apply Has.head | apply Take.head | apply Put.head | apply Has.tail | apply Take.tail | apply Put.tail)); done)) (by focus ((repeat (first | apply Has.head | apply Take.head | apply Put.head | apply Has.tail | apply Take.tail | apply Put.tail)); done)) : St we ρ (KN kb p (refs.filter (has L)) K :: Arena p (room 100) L :: Row r (flat L ++ spare) 37 :: Row b6 [.int .i64 (room 100), .slice (some ⟨r, 0, none⟩) L.length c] 29 :: Row bk [.pointer (some ⟨kb, 0, none⟩)] 26 :: _) _) (by rfl) (by kernel_rfl) ?_; clear hS)
              | (apply RQ.callF; rfl; rfl; rfl; (show ∀ w, _ → Cl _ 15 [_, .int .i64 (nd L i).a] _ _; exact fun w hS => (kcan_is hh hca (hS.take2 (by focus ((repeat (first | apply Has.head | apply Take.head | apply Put.head | apply Has.tail | apply Take.tail | apply Put.tail)); done)) (by focus ((repeat (first | apply Has.head | apply Take.head | apply Put.head | apply Has.tail | apply Take.tail | apply Put.tail)); done)))).at2 (by focus ((repeat (first | apply Has.head | apply Take.head | apply Put.head | apply Has.tail | apply Take.tail | apply Put.tail)); done)) (by focus ((repeat (first | apply Has.head | apply Take.head | apply Put.head | apply Has.tail | apply Take.tail | apply Put.tail)); done))))
              | (apply RQ.callF; rfl; rfl; rfl; (show ∀ w, _ → Cl _ 15 [_, .int .i64 (nd L i).b] _ _; exact fun w hS => (kcan_is hh hcb (hS.take2 (by focus ((repeat (first | apply Has.head | apply Take.head | apply Put.head | apply Has.tail | apply Take.tail | apply Put.tail)); done)) (by focus ((repeat (first | apply Has.head | apply Take.head | apply Put.head | apply Has.tail | apply Take.tail | apply Put.tail)); done)))).at2 (by focus ((repeat (first | apply Has.head | apply Take.head | apply Put.head | apply Has.tail | apply Take.tail | apply Put.tail)); done)) (by focus ((repeat (first | apply Has.head | apply Take.head | apply Put.head | apply Has.tail | apply Take.tail | apply Put.tail)); done))))
              | (apply RQ.callF; rfl; rfl; rfl; (show ∀ w, _ → Cl _ 15 [_, .int .i64 i] _ _; exact fun w hS => (kcan_is hh hceq (hS.take2 (by focus ((repeat (first | apply Has.head | apply Take.head | apply Put.head | apply Has.tail | apply Take.tail | apply Put.tail)); done)) (by focus ((repeat (first | apply Has.head | apply Take.head | apply Put.head | apply Has.tail | apply Take.tail | apply Put.tail)); done)))).at2 (by focus ((repeat (first | apply Has.head | apply Take.head | apply Put.head | apply Has.tail | apply Take.tail | apply Put.tail)); done)) (by focus ((repeat (first | apply Has.head | apply Take.head | apply Put.head | apply Has.tail | apply Take.tail | apply Put.tail)); done))))
              | (apply RQ.callF; rfl; rfl; rfl; (show ∀ w, _ → Cl _ 16 [_, .int .i64 i] _ _; exact fun w hS => (knows_is hki (hS.take (by focus ((repeat (first | apply Has.head | apply Take.head | apply Put.head | apply Has.tail | apply Take.tail | apply Put.tail)); done)))).at (by focus ((repeat (first | apply Has.head | apply Take.head | apply Put.head | apply Has.tail | apply Take.tail | apply Put.tail)); done))))
              | (apply RQ.callV; rfl; rfl; rfl; rfl; (show ∀ w, _ → Cl _ _ [.int .i64 (nd L i).a, _, _] _ _; exact fun w hS => hpubA hS))
              | (apply RQ.callV; rfl; rfl; rfl; rfl; (show ∀ w, _ → Cl _ _ [.int .i64 (nd L i).b, _, _] _ _; exact fun w hS => hpubB hS))
              | (refine RQ.split ?_ ?_ <;> intro hc <;> try (first | (exfalso; omega) | exact absurd rfl hc | exact Bool.noConfusion hc))
              | (refine RQ.nil ?_; (try clear hS); intro w1 hS)
              | refine RQ.still (by exact Still.any) rfl ?_
              | refine RQ.yes rfl rfl ?_
              | refine RQ.no rfl rfl rfl rfl ?_
              | refine RQ.noUndef rfl rfl rfl ?_
              | refine Run.seq ?_
              | refine Run.region ?_
              | (refine RO.split ?_ ?_ <;> intro hc <;> try (first | (exfalso; omega) | exact absurd rfl hc | exact Bool.noConfusion hc))
              | refine RO.nil ?_
              | refine RO.still (by exact Still.any) hS rfl ?_
              | (apply RO.op; apply OP.box hS; rfl; rfl; rfl; clear hS; intro b w1 hS)
              | (apply RO.op; apply OP.alloc hS; rfl; rfl; rfl; clear hS; intro b w1 hS)
              | (apply RO.op; apply OP.store hS; rfl; rfl; rfl; rfl; rfl; (focus ((repeat (first | apply Has.head | apply Take.head | apply Put.head | apply Has.tail | apply Take.tail | apply Put.tail)); done)); rfl; rfl; clear hS; intro w1 hS)
              | (apply RO.op; apply OP.buildSlice hS; rfl; rfl; (exact eqAuto); rfl; rfl; rfl; rfl; rfl; clear hS; intro b w1 hS)
              | (apply RO.op; apply OP.makeMap hS; rfl; clear hS; intro b w1 hS)
              | refine RO.yes rfl rfl ?_
              | refine RO.no rfl rfl rfl rfl ?_
              | refine RO.noUndef rfl rfl rfl ?_
              | refine RO.noNone rfl rfl rfl ?_
              | refine Run.cond_true rfl ?_
              | refine Run.cond_false rfl ?_
              | refine Run.skip ?_
              | refine Run.block ?_
              | refine Run.inBlock ?_
              | refine Run.exit rfl ?_
            all_goals refine Run.weaken (by focus ((repeat (first | exact .nil | refine .cons rfl ?_)); done)) (ih (i + 1) _ ⟨by omega, hS.picks (by focus ((repeat (first | apply Picks.all | apply Picks.nil | (refine Picks.cons (by repeat (first | apply Take.head | apply Take.tail)) ?_) | apply Picks.drop)); done))⟩ (by omega))
          | true =>
            cases pa with
            | true =>
              repeat' first
                | (refine RO.still (by apply Still.loadAgg; rfl; rfl; (exact eqAuto); (exact Rd.any); exact fn; rfl) hS rfl ?_)
                | (apply RO.op; apply OP.callF; rfl; rfl; rfl; show Cl _ 16 [_, .int .i64 i] _ _; exact knows_is hki (hS.take (by focus ((repeat (first | apply Has.head | apply Take.head | apply Put.head | apply Has.tail | apply Take.tail | apply Put.tail)); done))); clear hS; rintro v w1 ⟨rfl, hS⟩)
                | (apply RO.op; apply OP.callF; rfl; rfl; rfl; show Cl _ 16 [_, .int .i64 (nd L i).c] _ _; exact knows_is hkc (hS.take (by focus ((repeat (first | apply Has.head | apply Take.head | apply Put.head | apply Has.tail | apply Take.tail | apply Put.tail)); done))); clear hS; rintro v w1 ⟨rfl, hS⟩)
                | (apply RO.op; apply OP.callF; rfl; rfl; rfl; show Cl _ 15 [_, .int .i64 (nd L i).a] _ _; exact kcan_is hh hca (hS.take2 (by focus ((repeat (first | apply Has.head | apply Take.head | apply Put.head | apply Has.tail | apply Take.tail | apply Put.tail)); done)) (by focus ((repeat (first | apply Has.head | apply Take.head | apply Put.head | apply Has.tail | apply Take.tail | apply Put.tail)); done))); clear hS; rintro v w1 ⟨rfl, hS⟩)
                | (refine Run.regionQ_of (take5 hS (by focus ((repeat (first | apply Has.head | apply Take.head | apply Put.head | apply Has.tail | apply Take.tail | apply Put.tail)); done)) (by focus ((repeat (first | apply Has.head | apply Take.head | apply Put.head | apply Has.tail | apply Take.tail | apply Put.tail)); done)) (by focus ((repeat (first | apply Has.head | apply Take.head | apply Put.head | apply Has.tail | apply Take.tail | apply Put.tail)); done)) (by focus ((repeat (first | apply Has.head | apply Take.head | apply Put.head | apply Has.tail | apply Take.tail | apply Put.tail)); done)) (by focus ((repeat (first | apply Has.head | apply Take.head | apply Put.head | apply Has.tail | apply Take.tail | apply Put.tail)); done)) : St we ρ (KN kb p (refs.filter (has L)) K :: Arena p (room 100) L :: Row r (flat L ++ spare) 37 :: Row b6 [.int .i64 (room 100), .slice (some ⟨r, 0, none⟩) L.length c] 29 :: Row bk [.pointer (some ⟨kb, 0, none⟩)] 26 :: _) _) (by rfl) (by kernel_rfl) ?_; clear hS)
                | (apply RQ.callF; rfl; rfl; rfl; (show ∀ w, _ → Cl _ 15 [_, .int .i64 (nd L i).a] _ _; exact fun w hS => (kcan_is hh hca (hS.take2 (by focus ((repeat (first | apply Has.head | apply Take.head | apply Put.head | apply Has.tail | apply Take.tail | apply Put.tail)); done)) (by focus ((repeat (first | apply Has.head | apply Take.head | apply Put.head | apply Has.tail | apply Take.tail | apply Put.tail)); done)))).at2 (by focus ((repeat (first | apply Has.head | apply Take.head | apply Put.head | apply Has.tail | apply Take.tail | apply Put.tail)); done)) (by focus ((repeat (first | apply Has.head | apply Take.head | apply Put.head | apply Has.tail | apply Take.tail | apply Put.tail)); done))))
                | (apply RQ.callF; rfl; rfl; rfl; (show ∀ w, _ → Cl _ 15 [_, .int .i64 (nd L i).b] _ _; exact fun w hS => (kcan_is hh hcb (hS.take2 (by focus ((repeat (first | apply Has.head | apply Take.head | apply Put.head | apply Has.tail | apply Take.tail | apply Put.tail)); done)) (by focus ((repeat (first | apply Has.head | apply Take.head | apply Put.head | apply Has.tail | apply Take.tail | apply Put.tail)); done)))).at2 (by focus ((repeat (first | apply Has.head | apply Take.head | apply Put.head | apply Has.tail | apply Take.tail | apply Put.tail)); done)) (by focus ((repeat (first | apply Has.head | apply Take.head | apply Put.head | apply Has.tail | apply Take.tail | apply Put.tail)); done))))
                | (apply RQ.callF; rfl; rfl; rfl; (show ∀ w, _ → Cl _ 15 [_, .int .i64 i] _ _; exact fun w hS => (kcan_is hh hceq (hS.take2 (by focus ((repeat (first | apply Has.head | apply Take.head | apply Put.head | apply Has.tail | apply Take.tail | apply Put.tail)); done)) (by focus ((repeat (first | apply Has.head | apply Take.head | apply Put.head | apply Has.tail | apply Take.tail | apply Put.tail)); done)))).at2 (by focus ((repeat (first | apply Has.head | apply Take.head | apply Put.head | apply Has.tail | apply Take.tail | apply Put.tail)); done)) (by focus ((repeat (first | apply Has.head | apply Take.head | apply Put.head | apply Has.tail | apply Take.tail | apply Put.tail)); done))))
                | (apply RQ.callF; rfl; rfl; rfl; (show ∀ w, _ → Cl _ 16 [_, .int .i64 i] _ _; exact fun w hS => (knows_is hki (hS.take (by focus ((repeat (first | apply Has.head | apply Take.head | apply Put.head | apply Has.tail | apply Take.tail | apply Put.tail)); done)))).at (by focus ((repeat (first | apply Has.head | apply Take.head | apply Put.head | apply Has.tail | apply Take.tail | apply Put.tail)); done))))
                | (apply RQ.callV; rfl; rfl; rfl; rfl; (show ∀ w, _ → Cl _ _ [.int .i64 (nd L i).a, _, _] _ _; exact fun w hS => hpubA hS))
                | (apply RQ.callV; rfl; rfl; rfl; rfl; (show ∀ w, _ → Cl _ _ [.int .i64 (nd L i).b, _, _] _ _; exact fun w hS => hpubB hS))
                | (refine RQ.split ?_ ?_ <;> intro hc <;> try (first | (exfalso; omega) | exact absurd rfl hc | exact Bool.noConfusion hc))
                | (refine RQ.nil ?_; (try clear hS); intro w1 hS)
                | refine RQ.still (by exact Still.any) rfl ?_
                | refine RQ.yes rfl rfl ?_
                | refine RQ.no rfl rfl rfl rfl ?_
                | refine RQ.noUndef rfl rfl rfl ?_
                | refine Run.seq ?_
                | refine Run.region ?_
                | (refine RO.split ?_ ?_ <;> intro hc <;> try (first | (exfalso; omega) | exact absurd rfl hc | exact Bool.noConfusion hc))
                | refine RO.nil ?_
                | refine RO.still (by exact Still.any) hS rfl ?_
                | (apply RO.op; apply OP.box hS; rfl; rfl; rfl; clear hS; intro b w1 hS)
                | (apply RO.op; apply OP.alloc hS; rfl; rfl; rfl; clear hS; intro b w1 hS)
                | (apply RO.op; apply OP.store hS; rfl; rfl; rfl; rfl; rfl; (focus ((repeat (first | apply Has.head | apply Take.head | apply Put.head | apply Has.tail | apply Take.tail | apply Put.tail)); done)); rfl; rfl; clear hS; intro w1 hS)
                | (apply RO.op; apply OP.buildSlice hS; rfl; rfl; (exact eqAuto); rfl; rfl; rfl; rfl; rfl; clear hS; intro b w1 hS)
                | (apply RO.op; apply OP.makeMap hS; rfl; clear hS; intro b w1 hS)
                | refine RO.yes rfl rfl ?_
                | refine RO.no rfl rfl rfl rfl ?_
                | refine RO.noUndef rfl rfl rfl ?_
                | refine RO.noNone rfl rfl rfl ?_
                | refine Run.cond_true rfl ?_
                | refine Run.cond_false rfl ?_
                | refine Run.skip ?_
                | refine Run.block ?_
                | refine Run.inBlock ?_
                | refine Run.exit rfl ?_
              all_goals refine Run.weaken (by focus ((repeat (first | exact .nil | refine .cons rfl ?_)); done)) (ih (i + 1) _ ⟨by omega, hS.picks (by focus ((repeat (first | apply Picks.all | apply Picks.nil | (refine Picks.cons (by repeat (first | apply Take.head | apply Take.tail)) ?_) | apply Picks.drop)); done))⟩ (by omega))
            | false =>
              repeat' first
                | (refine RO.still (by apply Still.loadAgg; rfl; rfl; (exact eqAuto); (exact Rd.any); exact fn; rfl) hS rfl ?_)
                | (apply RO.op; apply OP.callF; rfl; rfl; rfl; show Cl _ 16 [_, .int .i64 i] _ _; exact knows_is hki (hS.take (by focus ((repeat (first | apply Has.head | apply Take.head | apply Put.head | apply Has.tail | apply Take.tail | apply Put.tail)); done))); clear hS; rintro v w1 ⟨rfl, hS⟩)
                | (apply RO.op; apply OP.callF; rfl; rfl; rfl; show Cl _ 16 [_, .int .i64 (nd L i).c] _ _; exact knows_is hkc (hS.take (by focus ((repeat (first | apply Has.head | apply Take.head | apply Put.head | apply Has.tail | apply Take.tail | apply Put.tail)); done))); clear hS; rintro v w1 ⟨rfl, hS⟩)
                | (apply RO.op; apply OP.callF; rfl; rfl; rfl; show Cl _ 15 [_, .int .i64 (nd L i).a] _ _; exact kcan_is hh hca (hS.take2 (by focus ((repeat (first | apply Has.head | apply Take.head | apply Put.head | apply Has.tail | apply Take.tail | apply Put.tail)); done)) (by focus ((repeat (first | apply Has.head | apply Take.head | apply Put.head | apply Has.tail | apply Take.tail | apply Put.tail)); done))); clear hS; rintro v w1 ⟨rfl, hS⟩)
                | (refine Run.regionQ_of (take5 hS (by focus ((repeat (first | apply Has.head | apply Take.head | apply Put.head | apply Has.tail | apply Take.tail | apply Put.tail)); done)) (by focus ((repeat (first | apply Has.head | apply Take.head | apply Put.head | apply Has.tail | apply Take.tail | apply Put.tail)); done)) (by focus ((repeat (first | apply Has.head | apply Take.head | apply Put.head | apply Has.tail | apply Take.tail | apply Put.tail)); done)) (by focus ((repeat (first | apply Has.head | apply Take.head | apply Put.head | apply Has.tail | apply Take.tail | apply Put.tail)); done)) (by focus ((repeat (first | apply Has.head | apply Take.head | apply Put.head | apply Has.tail | apply Take.tail | apply Put.tail)); done)) : St we ρ (KN kb p (refs.filter (has L)) K :: Arena p (room 100) L :: Row r (flat L ++ spare) 37 :: Row b6 [.int .i64 (room 100), .slice (some ⟨r, 0, none⟩) L.length c] 29 :: Row bk [.pointer (some ⟨kb, 0, none⟩)] 26 :: _) _) (by rfl) (by kernel_rfl) ?_; clear hS)
                | (apply RQ.callF; rfl; rfl; rfl; (show ∀ w, _ → Cl _ 15 [_, .int .i64 (nd L i).a] _ _; exact fun w hS => (kcan_is hh hca (hS.take2 (by focus ((repeat (first | apply Has.head | apply Take.head | apply Put.head | apply Has.tail | apply Take.tail | apply Put.tail)); done)) (by focus ((repeat (first | apply Has.head | apply Take.head | apply Put.head | apply Has.tail | apply Take.tail | apply Put.tail)); done)))).at2 (by focus ((repeat (first | apply Has.head | apply Take.head | apply Put.head | apply Has.tail | apply Take.tail | apply Put.tail)); done)) (by focus ((repeat (first | apply Has.head | apply Take.head | apply Put.head | apply Has.tail | apply Take.tail | apply Put.tail)); done))))
                | (apply RQ.callF; rfl; rfl; rfl; (show ∀ w, _ → Cl _ 15 [_, .int .i64 (nd L i).b] _ _; exact fun w hS => (kcan_is hh hcb (hS.take2 (by focus ((repeat (first | apply Has.head | apply Take.head | apply Put.head | apply Has.tail | apply Take.tail | apply Put.tail)); done)) (by focus ((repeat (first | apply Has.head | apply Take.head | apply Put.head | apply Has.tail | apply Take.tail | apply Put.tail)); done)))).at2 (by focus ((repeat (first | apply Has.head | apply Take.head | apply Put.head | apply Has.tail | apply Take.tail | apply Put.tail)); done)) (by focus ((repeat (first | apply Has.head | apply Take.head | apply Put.head | apply Has.tail | apply Take.tail | apply Put.tail)); done))))
                | (apply RQ.callF; rfl; rfl; rfl; (show ∀ w, _ → Cl _ 15 [_, .int .i64 i] _ _; exact fun w hS => (kcan_is hh hceq (hS.take2 (by focus ((repeat (first | apply Has.head | apply Take.head | apply Put.head | apply Has.tail | apply Take.tail | apply Put.tail)); done)) (by focus ((repeat (first | apply Has.head | apply Take.head | apply Put.head | apply Has.tail | apply Take.tail | apply Put.tail)); done)))).at2 (by focus ((repeat (first | apply Has.head | apply Take.head | apply Put.head | apply Has.tail | apply Take.tail | apply Put.tail)); done)) (by focus ((repeat (first | apply Has.head | apply Take.head | apply Put.head | apply Has.tail | apply Take.tail | apply Put.tail)); done))))
                | (apply RQ.callF; rfl; rfl; rfl; (show ∀ w, _ → Cl _ 16 [_, .int .i64 i] _ _; exact fun w hS => (knows_is hki (hS.take (by focus ((repeat (first | apply Has.head | apply Take.head | apply Put.head | apply Has.tail | apply Take.tail | apply Put.tail)); done)))).at (by focus ((repeat (first | apply Has.head | apply Take.head | apply Put.head | apply Has.tail | apply Take.tail | apply Put.tail)); done))))
                | (apply RQ.callV; rfl; rfl; rfl; rfl; (show ∀ w, _ → Cl _ _ [.int .i64 (nd L i).a, _, _] _ _; exact fun w hS => hpubA hS))
                | (apply RQ.callV; rfl; rfl; rfl; rfl; (show ∀ w, _ → Cl _ _ [.int .i64 (nd L i).b, _, _] _ _; exact fun w hS => hpubB hS))
                | (refine RQ.split ?_ ?_ <;> intro hc <;> try (first | (exfalso; omega) | exact absurd rfl hc | exact Bool.noConfusion hc))
                | (refine RQ.nil ?_; (try clear hS); intro w1 hS)
                | refine RQ.still (by exact Still.any) rfl ?_
                | refine RQ.yes rfl rfl ?_
                | refine RQ.no rfl rfl rfl rfl ?_
                | refine RQ.noUndef rfl rfl rfl ?_
                | refine Run.seq ?_
                | refine Run.region ?_
                | (refine RO.split ?_ ?_ <;> intro hc <;> try (first | (exfalso; omega) | exact absurd rfl hc | exact Bool.noConfusion hc))
                | refine RO.nil ?_
                | refine RO.still (by exact Still.any) hS rfl ?_
                | (apply RO.op; apply OP.box hS; rfl; rfl; rfl; clear hS; intro b w1 hS)
                | (apply RO.op; apply OP.alloc hS; rfl; rfl; rfl; clear hS; intro b w1 hS)
                | (apply RO.op; apply OP.store hS; rfl; rfl; rfl; rfl; rfl; (focus ((repeat (first | apply Has.head | apply Take.head | apply Put.head | apply Has.tail | apply Take.tail | apply Put.tail)); done)); rfl; rfl; clear hS; intro w1 hS)
                | (apply RO.op; apply OP.buildSlice hS; rfl; rfl; (exact eqAuto); rfl; rfl; rfl; rfl; rfl; clear hS; intro b w1 hS)
                | (apply RO.op; apply OP.makeMap hS; rfl; clear hS; intro b w1 hS)
                | refine RO.yes rfl rfl ?_
                | refine RO.no rfl rfl rfl rfl ?_
                | refine RO.noUndef rfl rfl rfl ?_
                | refine RO.noNone rfl rfl rfl ?_
                | refine Run.cond_true rfl ?_
                | refine Run.cond_false rfl ?_
                | refine Run.skip ?_
                | refine Run.block ?_
                | refine Run.inBlock ?_
                | refine Run.exit rfl ?_
              all_goals refine Run.weaken (by focus ((repeat (first | exact .nil | refine .cons rfl ?_)); done)) (ih (i + 1) _ ⟨by omega, hS.picks (by focus ((repeat (first | apply Picks.all | apply Picks.nil | (refine Picks.cons (by repeat (first | apply Take.head | apply Take.tail)) ?_) | apply Picks.drop)); done))⟩ (by omega))
    by_cases k1 : (nd L i).k = 1
    · have hc : canR L K (can L K) i = decide (4294967296 ≤ (nd L i).n) := by unfold canR; rw [if_neg (by omega), if_pos k1]
      rw [hc] at hceq
      obtain ⟨ki, hki⟩ : ∃ b, K (i : Nat) = b := ⟨_, rfl⟩
      rw [hki] at hceq
      by_cases hn : 4294967296 ≤ (nd L i).n
      · rw [decide_eq_true hn] at hceq
        cases ki
        all_goals
          repeat' first
            | (refine RO.still (by apply Still.loadAgg; rfl; rfl; (exact eqAuto); (exact Rd.any); exact fn; rfl) hS rfl ?_)
            | (apply RO.op; apply OP.callF; rfl; rfl; rfl; show Cl _ 16 [_, .int .i64 i] _ _; exact knows_is hki (hS.take (by focus ((repeat (first | apply Has.head | apply Take.head | apply Put.head | apply Has.tail | apply Take.tail | apply Put.tail)); done))); clear hS; rintro v w1 ⟨rfl, hS⟩)
            | (apply RO.op; apply OP.callF; rfl; rfl; rfl; show Cl _ 16 [_, .int .i64 (nd L i).c] _ _; exact knows_is hkc (hS.take (by focus ((repeat (first | apply Has.head | apply Take.head | apply Put.head | apply Has.tail | apply Take.tail | apply Put.tail)); done))); clear hS; rintro v w1 ⟨rfl, hS⟩)
            | (apply RO.op; apply OP.callF; rfl; rfl; rfl; show Cl _ 15 [_, .int .i64 (nd L i).a] _ _; exact kcan_is hh hca (hS.take2 (by focus ((repeat (first | apply Has.head | apply Take.head | apply Put.head | apply Has.tail | apply Take.tail | apply Put.tail)); done)) (by focus ((repeat (first | apply Has.head | apply Take.head | apply Put.head | apply Has.tail | apply Take.tail | apply Put.tail)); done))); clear hS; rintro v w1 ⟨rfl, hS⟩)
            | (refine Run.regionQ_of (take5 hS (by focus ((repeat (first | apply Has.head | apply Take.head | apply Put.head | apply Has.tail | apply Take.tail | apply Put.tail)); done)) (by focus ((repeat (first | apply Has.head | apply Take.head | apply Put.head | apply Has.tail | apply Take.tail | apply Put.tail)); done)) (by focus ((repeat (first | apply Has.head | apply Take.head | apply Put.head | apply Has.tail | apply Take.tail | apply Put.tail)); done)) (by focus ((repeat (first | apply Has.head | apply Take.head | apply Put.head | apply Has.tail | apply Take.tail | apply Put.tail)); done)) (by focus ((repeat (first | apply Has.head | apply Take.head | apply Put.head | apply Has.tail | apply Take.tail | apply Put.tail)); done)) : St we ρ (KN kb p (refs.filter (has L)) K :: Arena p (room 100) L :: Row r (flat L ++ spare) 37 :: Row b6 [.int .i64 (room 100), .slice (some ⟨r, 0, none⟩) L.length c] 29 :: Row bk [.pointer (some ⟨kb, 0, none⟩)] 26 :: _) _) (by rfl) (by kernel_rfl) ?_; clear hS)
            | (apply RQ.callF; rfl; rfl; rfl; (show ∀ w, _ → Cl _ 15 [_, .int .i64 (nd L i).a] _ _; exact fun w hS => (kcan_is hh hca (hS.take2 (by focus ((repeat (first | apply Has.head | apply Take.head | apply Put.head | apply Has.tail | apply Take.tail | apply Put.tail)); done)) (by focus ((repeat (first | apply Has.head | apply Take.head | apply Put.head | apply Has.tail | apply Take.tail | apply Put.tail)); done)))).at2 (by focus ((repeat (first | apply Has.head | apply Take.head | apply Put.head | apply Has.tail | apply Take.tail | apply Put.tail)); done)) (by focus ((repeat (first | apply Has.head | apply Take.head | apply Put.head | apply Has.tail | apply Take.tail | apply Put.tail)); done))))
            | (apply RQ.callF; rfl; rfl; rfl; (show ∀ w, _ → Cl _ 15 [_, .int .i64 (nd L i).b] _ _; exact fun w hS => (kcan_is hh hcb (hS.take2 (by focus ((repeat (first | apply Has.head | apply Take.head | apply Put.head | apply Has.tail | apply Take.tail | apply Put.tail)); done)) (by focus ((repeat (first | apply Has.head | apply Take.head | apply Put.head | apply Has.tail | apply Take.tail | apply Put.tail)); done)))).at2 (by focus ((repeat (first | apply Has.head | apply Take.head | apply Put.head | apply Has.tail | apply Take.tail | apply Put.tail)); done)) (by focus ((repeat (first | apply Has.head | apply Take.head | apply Put.head | apply Has.tail | apply Take.tail | apply Put.tail)); done))))
            | (apply RQ.callF; rfl; rfl; rfl; (show ∀ w, _ → Cl _ 15 [_, .int .i64 i] _ _; exact fun w hS => (kcan_is hh hceq (hS.take2 (by focus ((repeat (first | apply Has.head | apply Take.head | apply Put.head | apply Has.tail | apply Take.tail | apply Put.tail)); done)) (by focus ((repeat (first | apply Has.head | apply Take.head | apply Put.head | apply Has.tail | apply Take.tail | apply Put.tail)); done)))).at2 (by focus ((repeat (first | apply Has.head | apply Take.head | apply Put.head | apply Has.tail | apply Take.tail | apply Put.tail)); done)) (by focus ((repeat (first | apply Has.head | apply Take.head | apply Put.head | apply Has.tail | apply Take.tail | apply Put.tail)); done))))
            | (apply RQ.callF; rfl; rfl; rfl; (show ∀ w, _ → Cl _ 16 [_, .int .i64 i] _ _; exact fun w hS => (knows_is hki (hS.take (by focus ((repeat (first | apply Has.head | apply Take.head | apply Put.head | apply Has.tail | apply Take.tail | apply Put.tail)); done)))).at (by focus ((repeat (first | apply Has.head | apply Take.head | apply Put.head | apply Has.tail | apply Take.tail | apply Put.tail)); done))))
            | (apply RQ.callV; rfl; rfl; rfl; rfl; (show ∀ w, _ → Cl _ _ [.int .i64 (nd L i).a, _, _] _ _; exact fun w hS => hpubA hS))
            | (apply RQ.callV; rfl; rfl; rfl; rfl; (show ∀ w, _ → Cl _ _ [.int .i64 (nd L i).b, _, _] _ _; exact fun w hS => hpubB hS))
            | (refine RQ.split ?_ ?_ <;> intro hc <;> try (first | (exfalso; omega) | exact absurd rfl hc | exact Bool.noConfusion hc))
            | (refine RQ.nil ?_; (try clear hS); intro w1 hS)
            | refine RQ.still (by exact Still.any) rfl ?_
            | refine RQ.yes rfl rfl ?_
            | refine RQ.no rfl rfl rfl rfl ?_
            | refine RQ.noUndef rfl rfl rfl ?_
            | refine Run.seq ?_
            | refine Run.region ?_
            | (refine RO.split ?_ ?_ <;> intro hc <;> try (first | (exfalso; omega) | exact absurd rfl hc | exact Bool.noConfusion hc))
            | refine RO.nil ?_
            | refine RO.still (by exact Still.any) hS rfl ?_
            | (apply RO.op; apply OP.box hS; rfl; rfl; rfl; clear hS; intro b w1 hS)
            | (apply RO.op; apply OP.alloc hS; rfl; rfl; rfl; clear hS; intro b w1 hS)
            | (apply RO.op; apply OP.store hS; rfl; rfl; rfl; rfl; rfl; (focus ((repeat (first | apply Has.head | apply Take.head | apply Put.head | apply Has.tail | apply Take.tail | apply Put.tail)); done)); rfl; rfl; clear hS; intro w1 hS)
            | (apply RO.op; apply OP.buildSlice hS; rfl; rfl; (exact eqAuto); rfl; rfl; rfl; rfl; rfl; clear hS; intro b w1 hS)
            | (apply RO.op; apply OP.makeMap hS; rfl; clear hS; intro b w1 hS)
            | refine RO.yes rfl rfl ?_
            | refine RO.no rfl rfl rfl rfl ?_
            | refine RO.noUndef rfl rfl rfl ?_
            | refine RO.noNone rfl rfl rfl ?_
            | refine Run.cond_true rfl ?_
            | refine Run.cond_false rfl ?_
            | refine Run.skip ?_
            | refine Run.block ?_
            | refine Run.inBlock ?_
            | refine Run.exit rfl ?_
          all_goals refine Run.weaken (by focus ((repeat (first | exact .nil | refine .cons rfl ?_)); done)) (ih (i + 1) _ ⟨by omega, hS.picks (by focus ((repeat (first | apply Picks.all | apply Picks.nil | (refine Picks.cons (by repeat (first | apply Take.head | apply Take.tail)) ?_) | apply Picks.drop)); done))⟩ (by omega))
      · rw [decide_eq_false hn] at hceq
        cases ki
        all_goals
          repeat' first
            | (refine RO.still (by apply Still.loadAgg; rfl; rfl; (exact eqAuto); (exact Rd.any); exact fn; rfl) hS rfl ?_)
            | (apply RO.op; apply OP.callF; rfl; rfl; rfl; show Cl _ 16 [_, .int .i64 i] _ _; exact knows_is hki (hS.take (by focus ((repeat (first | apply Has.head | apply Take.head | apply Put.head | apply Has.tail | apply Take.tail | apply Put.tail)); done))); clear hS; rintro v w1 ⟨rfl, hS⟩)
            | (apply RO.op; apply OP.callF; rfl; rfl; rfl; show Cl _ 16 [_, .int .i64 (nd L i).c] _ _; exact knows_is hkc (hS.take (by focus ((repeat (first | apply Has.head | apply Take.head | apply Put.head | apply Has.tail | apply Take.tail | apply Put.tail)); done))); clear hS; rintro v w1 ⟨rfl, hS⟩)
            | (apply RO.op; apply OP.callF; rfl; rfl; rfl; show Cl _ 15 [_, .int .i64 (nd L i).a] _ _; exact kcan_is hh hca (hS.take2 (by focus ((repeat (first | apply Has.head | apply Take.head | apply Put.head | apply Has.tail | apply Take.tail | apply Put.tail)); done)) (by focus ((repeat (first | apply Has.head | apply Take.head | apply Put.head | apply Has.tail | apply Take.tail | apply Put.tail)); done))); clear hS; rintro v w1 ⟨rfl, hS⟩)
            | (refine Run.regionQ_of (take5 hS (by focus ((repeat (first | apply Has.head | apply Take.head | apply Put.head | apply Has.tail | apply Take.tail | apply Put.tail)); done)) (by focus ((repeat (first | apply Has.head | apply Take.head | apply Put.head | apply Has.tail | apply Take.tail | apply Put.tail)); done)) (by focus ((repeat (first | apply Has.head | apply Take.head | apply Put.head | apply Has.tail | apply Take.tail | apply Put.tail)); done)) (by focus ((repeat (first | apply Has.head | apply Take.head | apply Put.head | apply Has.tail | apply Take.tail | apply Put.tail)); done)) (by focus ((repeat (first | apply Has.head | apply Take.head | apply Put.head | apply Has.tail | apply Take.tail | apply Put.tail)); done)) : St we ρ (KN kb p (refs.filter (has L)) K :: Arena p (room 100) L :: Row r (flat L ++ spare) 37 :: Row b6 [.int .i64 (room 100), .slice (some ⟨r, 0, none⟩) L.length c] 29 :: Row bk [.pointer (some ⟨kb, 0, none⟩)] 26 :: _) _) (by rfl) (by kernel_rfl) ?_; clear hS)
            | (apply RQ.callF; rfl; rfl; rfl; (show ∀ w, _ → Cl _ 15 [_, .int .i64 (nd L i).a] _ _; exact fun w hS => (kcan_is hh hca (hS.take2 (by focus ((repeat (first | apply Has.head | apply Take.head | apply Put.head | apply Has.tail | apply Take.tail | apply Put.tail)); done)) (by focus ((repeat (first | apply Has.head | apply Take.head | apply Put.head | apply Has.tail | apply Take.tail | apply Put.tail)); done)))).at2 (by focus ((repeat (first | apply Has.head | apply Take.head | apply Put.head | apply Has.tail | apply Take.tail | apply Put.tail)); done)) (by focus ((repeat (first | apply Has.head | apply Take.head | apply Put.head | apply Has.tail | apply Take.tail | apply Put.tail)); done))))
            | (apply RQ.callF; rfl; rfl; rfl; (show ∀ w, _ → Cl _ 15 [_, .int .i64 (nd L i).b] _ _; exact fun w hS => (kcan_is hh hcb (hS.take2 (by focus ((repeat (first | apply Has.head | apply Take.head | apply Put.head | apply Has.tail | apply Take.tail | apply Put.tail)); done)) (by focus ((repeat (first | apply Has.head | apply Take.head | apply Put.head | apply Has.tail | apply Take.tail | apply Put.tail)); done)))).at2 (by focus ((repeat (first | apply Has.head | apply Take.head | apply Put.head | apply Has.tail | apply Take.tail | apply Put.tail)); done)) (by focus ((repeat (first | apply Has.head | apply Take.head | apply Put.head | apply Has.tail | apply Take.tail | apply Put.tail)); done))))
            | (apply RQ.callF; rfl; rfl; rfl; (show ∀ w, _ → Cl _ 15 [_, .int .i64 i] _ _; exact fun w hS => (kcan_is hh hceq (hS.take2 (by focus ((repeat (first | apply Has.head | apply Take.head | apply Put.head | apply Has.tail | apply Take.tail | apply Put.tail)); done)) (by focus ((repeat (first | apply Has.head | apply Take.head | apply Put.head | apply Has.tail | apply Take.tail | apply Put.tail)); done)))).at2 (by focus ((repeat (first | apply Has.head | apply Take.head | apply Put.head | apply Has.tail | apply Take.tail | apply Put.tail)); done)) (by focus ((repeat (first | apply Has.head | apply Take.head | apply Put.head | apply Has.tail | apply Take.tail | apply Put.tail)); done))))
            | (apply RQ.callF; rfl; rfl; rfl; (show ∀ w, _ → Cl _ 16 [_, .int .i64 i] _ _; exact fun w hS => (knows_is hki (hS.take (by focus ((repeat (first | apply Has.head | apply Take.head | apply Put.head | apply Has.tail | apply Take.tail | apply Put.tail)); done)))).at (by focus ((repeat (first | apply Has.head | apply Take.head | apply Put.head | apply Has.tail | apply Take.tail | apply Put.tail)); done))))
            | (apply RQ.callV; rfl; rfl; rfl; rfl; (show ∀ w, _ → Cl _ _ [.int .i64 (nd L i).a, _, _] _ _; exact fun w hS => hpubA hS))
            | (apply RQ.callV; rfl; rfl; rfl; rfl; (show ∀ w, _ → Cl _ _ [.int .i64 (nd L i).b, _, _] _ _; exact fun w hS => hpubB hS))
            | (refine RQ.split ?_ ?_ <;> intro hc <;> try (first | (exfalso; omega) | exact absurd rfl hc | exact Bool.noConfusion hc))
            | (refine RQ.nil ?_; (try clear hS); intro w1 hS)
            | refine RQ.still (by exact Still.any) rfl ?_
            | refine RQ.yes rfl rfl ?_
            | refine RQ.no rfl rfl rfl rfl ?_
            | refine RQ.noUndef rfl rfl rfl ?_
            | refine Run.seq ?_
            | refine Run.region ?_
            | (refine RO.split ?_ ?_ <;> intro hc <;> try (first | (exfalso; omega) | exact absurd rfl hc | exact Bool.noConfusion hc))
            | refine RO.nil ?_
            | refine RO.still (by exact Still.any) hS rfl ?_
            | (apply RO.op; apply OP.box hS; rfl; rfl; rfl; clear hS; intro b w1 hS)
            | (apply RO.op; apply OP.alloc hS; rfl; rfl; rfl; clear hS; intro b w1 hS)
            | (apply RO.op; apply OP.store hS; rfl; rfl; rfl; rfl; rfl; (focus ((repeat (first | apply Has.head | apply Take.head | apply Put.head | apply Has.tail | apply Take.tail | apply Put.tail)); done)); rfl; rfl; clear hS; intro w1 hS)
            | (apply RO.op; apply OP.buildSlice hS; rfl; rfl; (exact eqAuto); rfl; rfl; rfl; rfl; rfl; clear hS; intro b w1 hS)
            | (apply RO.op; apply OP.makeMap hS; rfl; clear hS; intro b w1 hS)
            | refine RO.yes rfl rfl ?_
            | refine RO.no rfl rfl rfl rfl ?_
            | refine RO.noUndef rfl rfl rfl ?_
            | refine RO.noNone rfl rfl rfl ?_
            | refine Run.cond_true rfl ?_
            | refine Run.cond_false rfl ?_
            | refine Run.skip ?_
            | refine Run.block ?_
            | refine Run.inBlock ?_
            | refine Run.exit rfl ?_
          all_goals refine Run.weaken (by focus ((repeat (first | exact .nil | refine .cons rfl ?_)); done)) (ih (i + 1) _ ⟨by omega, hS.picks (by focus ((repeat (first | apply Picks.all | apply Picks.nil | (refine Picks.cons (by repeat (first | apply Take.head | apply Take.tail)) ?_) | apply Picks.drop)); done))⟩ (by omega))
    · skip
      repeat' first
        | (refine RO.still (by apply Still.loadAgg; rfl; rfl; (exact eqAuto); (exact Rd.any); exact fn; rfl) hS rfl ?_)
        | (apply RO.op; apply OP.callF; rfl; rfl; rfl; show Cl _ 16 [_, .int .i64 i] _ _; exact knows_is hki (hS.take (by focus ((repeat (first | apply Has.head | apply Take.head | apply Put.head | apply Has.tail | apply Take.tail | apply Put.tail)); done))); clear hS; rintro v w1 ⟨rfl, hS⟩)
        | (apply RO.op; apply OP.callF; rfl; rfl; rfl; show Cl _ 16 [_, .int .i64 (nd L i).c] _ _; exact knows_is hkc (hS.take (by focus ((repeat (first | apply Has.head | apply Take.head | apply Put.head | apply Has.tail | apply Take.tail | apply Put.tail)); done))); clear hS; rintro v w1 ⟨rfl, hS⟩)
        | (apply RO.op; apply OP.callF; rfl; rfl; rfl; show Cl _ 15 [_, .int .i64 (nd L i).a] _ _; exact kcan_is hh hca (hS.take2 (by focus ((repeat (first | apply Has.head | apply Take.head | apply Put.head | apply Has.tail | apply Take.tail | apply Put.tail)); done)) (by focus ((repeat (first | apply Has.head | apply Take.head | apply Put.head | apply Has.tail | apply Take.tail | apply Put.tail)); done))); clear hS; rintro v w1 ⟨rfl, hS⟩)
        | (refine Run.regionQ_of (take5 hS (by focus ((repeat (first | apply Has.head | apply Take.head | apply Put.head | apply Has.tail | apply Take.tail | apply Put.tail)); done)) (by focus ((repeat (first | apply Has.head | apply Take.head | apply Put.head | apply Has.tail | apply Take.tail | apply Put.tail)); done)) (by focus ((repeat (first | apply Has.head | apply Take.head | apply Put.head | apply Has.tail | apply Take.tail | apply Put.tail)); done)) (by focus ((repeat (first | apply Has.head | apply Take.head | apply Put.head | apply Has.tail | apply Take.tail | apply Put.tail)); done)) (by focus ((repeat (first | apply Has.head | apply Take.head | apply Put.head | apply Has.tail | apply Take.tail | apply Put.tail)); done)) : St we ρ (KN kb p (refs.filter (has L)) K :: Arena p (room 100) L :: Row r (flat L ++ spare) 37 :: Row b6 [.int .i64 (room 100), .slice (some ⟨r, 0, none⟩) L.length c] 29 :: Row bk [.pointer (some ⟨kb, 0, none⟩)] 26 :: _) _) (by rfl) (by kernel_rfl) ?_; clear hS)
        | (apply RQ.callF; rfl; rfl; rfl; (show ∀ w, _ → Cl _ 15 [_, .int .i64 (nd L i).a] _ _; exact fun w hS => (kcan_is hh hca (hS.take2 (by focus ((repeat (first | apply Has.head | apply Take.head | apply Put.head | apply Has.tail | apply Take.tail | apply Put.tail)); done)) (by focus ((repeat (first | apply Has.head | apply Take.head | apply Put.head | apply Has.tail | apply Take.tail | apply Put.tail)); done)))).at2 (by focus ((repeat (first | apply Has.head | apply Take.head | apply Put.head | apply Has.tail | apply Take.tail | apply Put.tail)); done)) (by focus ((repeat (first | apply Has.head | apply Take.head | apply Put.head | apply Has.tail | apply Take.tail | apply Put.tail)); done))))
        | (apply RQ.callF; rfl; rfl; rfl; (show ∀ w, _ → Cl _ 15 [_, .int .i64 (nd L i).b] _ _; exact fun w hS => (kcan_is hh hcb (hS.take2 (by focus ((repeat (first | apply Has.head | apply Take.head | apply Put.head | apply Has.tail | apply Take.tail | apply Put.tail)); done)) (by focus ((repeat (first | apply Has.head | apply Take.head | apply Put.head | apply Has.tail | apply Take.tail | apply Put.tail)); done)))).at2 (by focus ((repeat (first | apply Has.head | apply Take.head | apply Put.head | apply Has.tail | apply Take.tail | apply Put.tail)); done)) (by focus ((repeat (first | apply Has.head | apply Take.head | apply Put.head | apply Has.tail | apply Take.tail | apply Put.tail)); done))))
        | (apply RQ.callF; rfl; rfl; rfl; (show ∀ w, _ → Cl _ 15 [_, .int .i64 i] _ _; exact fun w hS => (kcan_is hh hceq (hS.take2 (by focus ((repeat (first | apply Has.head | apply Take.head | apply Put.head | apply Has.tail | apply Take.tail | apply Put.tail)); done)) (by focus ((repeat (first | apply Has.head | apply Take.head | apply Put.head | apply Has.tail | apply Take.tail | apply Put.tail)); done)))).at2 (by focus ((repeat (first | apply Has.head | apply Take.head | apply Put.head | apply Has.tail | apply Take.tail | apply Put.tail)); done)) (by focus ((repeat (first | apply Has.head | apply Take.head | apply Put.head | apply Has.tail | apply Take.tail | apply Put.tail)); done))))
        | (apply RQ.callF; rfl; rfl; rfl; (show ∀ w, _ → Cl _ 16 [_, .int .i64 i] _ _; exact fun w hS => (knows_is hki (hS.take (by focus ((repeat (first | apply Has.head | apply Take.head | apply Put.head | apply Has.tail | apply Take.tail | apply Put.tail)); done)))).at (by focus ((repeat (first | apply Has.head | apply Take.head | apply Put.head | apply Has.tail | apply Take.tail | apply Put.tail)); done))))
        | (apply RQ.callV; rfl; rfl; rfl; rfl; (show ∀ w, _ → Cl _ _ [.int .i64 (nd L i).a, _, _] _ _; exact fun w hS => hpubA hS))
        | (apply RQ.callV; rfl; rfl; rfl; rfl; (show ∀ w, _ → Cl _ _ [.int .i64 (nd L i).b, _, _] _ _; exact fun w hS => hpubB hS))
        | (refine RQ.split ?_ ?_ <;> intro hc <;> try (first | (exfalso; omega) | exact absurd rfl hc | exact Bool.noConfusion hc))
        | (refine RQ.nil ?_; (try clear hS); intro w1 hS)
        | refine RQ.still (by exact Still.any) rfl ?_
        | refine RQ.yes rfl rfl ?_
        | refine RQ.no rfl rfl rfl rfl ?_
        | refine RQ.noUndef rfl rfl rfl ?_
        | refine Run.seq ?_
        | refine Run.region ?_
        | (refine RO.split ?_ ?_ <;> intro hc <;> try (first | (exfalso; omega) | exact absurd rfl hc | exact Bool.noConfusion hc))
        | refine RO.nil ?_
        | refine RO.still (by exact Still.any) hS rfl ?_
        | (apply RO.op; apply OP.box hS; rfl; rfl; rfl; clear hS; intro b w1 hS)
        | (apply RO.op; apply OP.alloc hS; rfl; rfl; rfl; clear hS; intro b w1 hS)
        | (apply RO.op; apply OP.store hS; rfl; rfl; rfl; rfl; rfl; (focus ((repeat (first | apply Has.head | apply Take.head | apply Put.head | apply Has.tail | apply Take.tail | apply Put.tail)); done)); rfl; rfl; clear hS; intro w1 hS)
        | (apply RO.op; apply OP.buildSlice hS; rfl; rfl; (exact eqAuto); rfl; rfl; rfl; rfl; rfl; clear hS; intro b w1 hS)
        | (apply RO.op; apply OP.makeMap hS; rfl; clear hS; intro b w1 hS)
        | refine RO.yes rfl rfl ?_
        | refine RO.no rfl rfl rfl rfl ?_
        | refine RO.noUndef rfl rfl rfl ?_
        | refine RO.noNone rfl rfl rfl ?_
        | refine Run.cond_true rfl ?_
        | refine Run.cond_false rfl ?_
        | refine Run.skip ?_
        | refine Run.block ?_
        | refine Run.inBlock ?_
        | refine Run.exit rfl ?_
      all_goals refine Run.weaken (by focus ((repeat (first | exact .nil | refine .cons rfl ?_)); done)) (ih (i + 1) _ ⟨by omega, hS.picks (by focus ((repeat (first | apply Picks.all | apply Picks.nil | (refine Picks.cons (by repeat (first | apply Take.head | apply Take.tail)) ?_) | apply Picks.drop)); done))⟩ (by omega))
  · obtain rfl : i = L.length := by omega
    repeat' first
      | (apply RO.op; apply OP.callF; rfl; rfl; rfl; show Cl _ 12 _ _ _; exact kawake_calls hS; clear hS; rintro v w1 ⟨rfl, hS⟩)
      | (apply OP.callF; rfl; rfl; rfl; show Cl _ 12 _ _ _; exact kawake_calls hS; clear hS; rintro v w1 ⟨rfl, hS⟩; refine ⟨(by first | exact hS | exact hS.tail | exact hS.sublist (by repeat (first | exact List.Sublist.refl _ | refine .cons_cons _ ?_ | refine .cons _ ?_))), ?_⟩)
      | refine Run.seq ?_
      | refine Run.region ?_
      | (refine RO.split ?_ ?_ <;> intro hc <;> try (first | (exfalso; omega) | exact absurd rfl hc | exact Bool.noConfusion hc))
      | refine RO.nil ?_
      | refine RO.still (by exact Still.any) hS rfl ?_
      | (apply RO.op; apply OP.box hS; rfl; rfl; rfl; clear hS; intro b w1 hS)
      | (apply RO.op; apply OP.alloc hS; rfl; rfl; rfl; clear hS; intro b w1 hS)
      | (apply RO.op; apply OP.store hS; rfl; rfl; rfl; rfl; rfl; (focus ((repeat (first | apply Has.head | apply Take.head | apply Put.head | apply Has.tail | apply Take.tail | apply Put.tail)); done)); rfl; rfl; clear hS; intro w1 hS)
      | (apply RO.op; apply OP.buildSlice hS; rfl; rfl; (exact eqAuto); rfl; rfl; rfl; rfl; rfl; clear hS; intro b w1 hS)
      | (apply RO.op; apply OP.makeMap hS; rfl; clear hS; intro b w1 hS)
      | refine RO.yes rfl rfl ?_
      | refine RO.no rfl rfl rfl rfl ?_
      | refine RO.noUndef rfl rfl rfl ?_
      | refine RO.noNone rfl rfl rfl ?_
      | refine Run.cond_true rfl ?_
      | refine Run.cond_false rfl ?_
      | refine Run.skip ?_
      | refine Run.block ?_
      | refine Run.inBlock ?_
      | refine Run.exit rfl ?_
    refine Run.ret Try.func5 rfl (.tmp rfl .nil) ?_
    exact ⟨rfl, hS.picks (by focus ((repeat (first | apply Picks.all | apply Picks.nil | (refine Picks.cons (by repeat (first | apply Take.head | apply Take.tail)) ?_) | apply Picks.drop)); done))⟩
end
end Go.Proofs.Ytjkfbimldgegmaa
