/-
  What lacks to a key that is made, and which Dh is made with neither secret, is the document's; of keys and Dhs that are not known, nothing ever does, and none ever is: undertonelaw18.TraceShort is true.
-/
import Derived.Test.YtcigkkedffggiaaTrace5
namespace Go.Proofs.Ytcigkkedffggiaa
set_option maxRecDepth 8000
set_option linter.unusedSimpArgs false
set_option linter.unusedVariables false
open Go Go.RowKit

section
variable {we w : World} {ρ : List (Nat × Obj)} {σ F : List HP} {p lim : Nat} {L : List Nd}

set_option maxHeartbeats 16000000 in
theorem traceShort_law {l : List Nd} {v : Value} {refs : List Int} {u : Value} (hl : Sl ρ ndL 5 v l) (hq : ∀ a ∈ l, 0 ≤ a.n ∧ a.n ≤ 18446744073709551615) (hr : Sl ρ intL 1 u refs) (hq2 : ∀ a ∈ refs, True) (hS : St we ρ σ w) :
    Cl Try.prog 8 [v, u] w fun v w' => v = .bool true ∧ St we ρ σ w' := by
  obtain ⟨sp1, cap1, rfl, hle1, hcm1, -⟩ := hl.val
  obtain ⟨sp2, cap2, rfl, hle2, hcm2, -⟩ := hr.val
  refine Run.calls2 (n := 111) Try.func8 rfl rfl rfl ?_
  by_cases h1 : l.length ≤ 30
  rotate_left
  · repeat' first
      | (apply RO.op; apply OP.callF; rfl; rfl; rfl; show Cl _ 10 _ _ _; exact awake_calls hS; clear hS; rintro v w1 ⟨rfl, hS⟩)
      | (apply OP.callF; rfl; rfl; rfl; show Cl _ 10 _ _ _; exact awake_calls hS; clear hS; rintro v w1 ⟨rfl, hS⟩; refine ⟨(by first | exact hS | exact hS.tail | exact hS.sublist (by repeat (first | exact List.Sublist.refl _ | refine .cons_cons _ ?_ | refine .cons _ ?_))), ?_⟩)
      | refine Run.seq ?_
      | refine Run.region ?_
      | (refine RO.split ?_ ?_ <;> intro hc <;> try (first | (exfalso; omega) | exact absurd rfl hc | exact Bool.noConfusion hc))
      | refine RO.nil ?_
      | refine RO.still (by exact Still.any) hS rfl ?_
      | (apply RO.op; apply OP.box hS; rfl; rfl; rfl; clear hS; intro b w1 hS)
      | (apply RO.op; apply OP.alloc hS; rfl; rfl; rfl; clear hS; intro b w1 hS)
      | (apply RO.op; apply OP.store hS; rfl; rfl; rfl; rfl; rfl; (focus ((repeat (first | apply Has.head | apply Take.head | apply Put.head | apply Has.tail | apply Take.tail | apply Put.tail)); done)); rfl; rfl; clear hS; intro w1 hS)
      | (apply RO.op; apply OP.buildSlice hS; rfl; rfl; (exact eqAuto); rfl; rfl; rfl; rfl; rfl; clear hS; intro b w1 hS)
      | (apply RO.op; apply OP.makeMap hS; rfl; clear hS; intro b w1 hS)
      | refine RO.yes rfl rfl ?_
      | refine RO.no rfl rfl rfl rfl ?_
      | refine RO.noUndef rfl rfl rfl ?_
      | refine RO.noNone rfl rfl rfl ?_
      | refine Run.cond_true rfl ?_
      | refine Run.cond_false rfl ?_
      | refine Run.skip ?_
      | refine Run.block ?_
      | refine Run.inBlock ?_
      | refine Run.exit rfl ?_
    all_goals
      refine Run.ret Try.func8 rfl (.tmp rfl .nil) ?_
      exact ⟨rfl, hS.picks (by focus ((repeat (first | apply Picks.all | apply Picks.nil | (refine Picks.cons (by repeat (first | apply Take.head | apply Take.tail)) ?_) | apply Picks.drop)); done))⟩
  by_cases h2 : refs.length ≤ 30
  rotate_left
  · repeat' first
      | (apply RO.op; apply OP.callF; rfl; rfl; rfl; show Cl _ 10 _ _ _; exact awake_calls hS; clear hS; rintro v w1 ⟨rfl, hS⟩)
      | (apply OP.callF; rfl; rfl; rfl; show Cl _ 10 _ _ _; exact awake_calls hS; clear hS; rintro v w1 ⟨rfl, hS⟩; refine ⟨(by first | exact hS | exact hS.tail | exact hS.sublist (by repeat (first | exact List.Sublist.refl _ | refine .cons_cons _ ?_ | refine .cons _ ?_))), ?_⟩)
      | refine Run.seq ?_
      | refine Run.region ?_
      | (refine RO.split ?_ ?_ <;> intro hc <;> try (first | (exfalso; omega) | exact absurd rfl hc | exact Bool.noConfusion hc))
      | refine RO.nil ?_
      | refine RO.still (by exact Still.any) hS rfl ?_
      | (apply RO.op; apply OP.box hS; rfl; rfl; rfl; clear hS; intro b w1 hS)
      | (apply RO.op; apply OP.alloc hS; rfl; rfl; rfl; clear hS; intro b w1 hS)
      | (apply RO.op; apply OP.store hS; rfl; rfl; rfl; rfl; rfl; (focus ((repeat (first | apply Has.head | apply Take.head | apply Put.head | apply Has.tail | apply Take.tail | apply Put.tail)); done)); rfl; rfl; clear hS; intro w1 hS)
      | (apply RO.op; apply OP.buildSlice hS; rfl; rfl; (exact eqAuto); rfl; rfl; rfl; rfl; rfl; clear hS; intro b w1 hS)
      | (apply RO.op; apply OP.makeMap hS; rfl; clear hS; intro b w1 hS)
      | refine RO.yes rfl rfl ?_
      | refine RO.no rfl rfl rfl rfl ?_
      | refine RO.noUndef rfl rfl rfl ?_
      | refine RO.noNone rfl rfl rfl ?_
      | refine Run.cond_true rfl ?_
      | refine Run.cond_false rfl ?_
      | refine Run.skip ?_
      | refine Run.block ?_
      | refine Run.inBlock ?_
      | refine Run.exit rfl ?_
    all_goals
      refine Run.ret Try.func8 rfl (.tmp rfl .nil) ?_
      exact ⟨rfl, hS.picks (by focus ((repeat (first | apply Picks.all | apply Picks.nil | (refine Picks.cons (by repeat (first | apply Take.head | apply Take.tail)) ?_) | apply Picks.drop)); done))⟩
  have h40 : l.length ≤ 40 := by omega
  have g := builtUp_good (limit := 100) l
  have hrt := builtUp_rt (limit := 100) l
  have hh := learnAll_has g (K := fun _ => false) (by simp) refs
  have hclo := learnAll_closed (L := builtUp (room 100) l) refs
  have hflen : (refs.filter (has (builtUp (room 100) l))).length ≤ 30 := by
    have := List.length_filter_le (has (builtUp (room 100) l)) refs
    omega
  generalize hL : builtUp (room 100) l = L at g hrt hh hclo hflen
  generalize hK : learnAll L refs (fun _ => false) = K at hh hclo
  have hlim := g.lim
  have hlen := g.len
  repeat' first
    | (apply RO.op; apply OP.callF; rfl; rfl; rfl; show Cl _ 22 _ _ _; exact trlearned_calls h40 h2 hl hr hL hK hS; clear hS; rintro v w1 ⟨kb, p, r, c, spare, gk, ck, sp, gc, rfl, hS⟩)
    | (apply OP.callF; rfl; rfl; rfl; show Cl _ 22 _ _ _; exact trlearned_calls h40 h2 hl hr hL hK hS; clear hS; rintro v w1 ⟨kb, p, r, c, spare, gk, ck, sp, gc, rfl, hS⟩; refine ⟨(by first | exact hS | exact hS.tail | exact hS.sublist (by repeat (first | exact List.Sublist.refl _ | refine .cons_cons _ ?_ | refine .cons _ ?_))), ?_⟩)
    | refine Run.seq ?_
    | refine Run.region ?_
    | (refine RO.split ?_ ?_ <;> intro hc <;> try (first | (exfalso; omega) | exact absurd rfl hc | exact Bool.noConfusion hc))
    | refine RO.nil ?_
    | refine RO.still (by exact Still.any) hS rfl ?_
    | (apply RO.op; apply OP.box hS; rfl; rfl; rfl; clear hS; intro b w1 hS)
    | (apply RO.op; apply OP.alloc hS; rfl; rfl; rfl; clear hS; intro b w1 hS)
    | (apply RO.op; apply OP.store hS; rfl; rfl; rfl; rfl; rfl; (focus ((repeat (first | apply Has.head | apply Take.head | apply Put.head | apply Has.tail | apply Take.tail | apply Put.tail)); done)); rfl; rfl; clear hS; intro w1 hS)
    | (apply RO.op; apply OP.buildSlice hS; rfl; rfl; (exact eqAuto); rfl; rfl; rfl; rfl; rfl; clear hS; intro b w1 hS)
    | (apply RO.op; apply OP.makeMap hS; rfl; clear hS; intro b w1 hS)
    | refine RO.yes rfl rfl ?_
    | refine RO.no rfl rfl rfl rfl ?_
    | refine RO.noUndef rfl rfl rfl ?_
    | refine RO.noNone rfl rfl rfl ?_
    | refine Run.cond_true rfl ?_
    | refine Run.cond_false rfl ?_
    | refine Run.skip ?_
    | refine Run.block ?_
    | refine Run.inBlock ?_
    | refine Run.exit rfl ?_
  obtain ⟨b0, hb0⟩ : ∃ x, x = b := ⟨b, rfl⟩
  subst hb0
  have hc0 : boolsL L (can L K) = boolsL L (can L K) ++ [] := by rw [List.append_nil]
  rw [hc0] at hS
  refine Run.while (fun i : Nat => [(5, .pointer (some ⟨p, 0, none⟩)), (6, .pointer (some ⟨b0, 0, none⟩)), (7, .pointer (some ⟨kb, 0, none⟩)), (8, .slice (some ⟨gk, 0, none⟩) L.length ck), (9, .slice (some ⟨gc, 0, none⟩) L.length L.length), (36, .int .i64 L.length), (37, .int .i64 i)])
    (fun i w => i ≤ L.length ∧ St we ρ (KN kb p (refs.filter (has L)) K :: Arena p (room 100) L :: Row r (flat L ++ spare) 58 :: Row gc (boolsL L (can L K) ++ []) 4 :: Row gk (boolsL L K ++ sp) 4 :: Row b0 [.int .i64 (room 100), .slice (some ⟨r, 0, none⟩) L.length c] 48 :: σ) w) (fun i => L.length - i) 0
    ⟨by omega, hS.picks (by focus ((repeat (first | apply Picks.all | apply Picks.nil | (refine Picks.cons (by repeat (first | apply Take.head | apply Take.tail)) ?_) | apply Picks.drop)); done))⟩ (by focus ((repeat (first | exact .nil | refine .cons rfl ?_)); done)) ?_
  clear hS
  rintro i w ⟨hi, hS⟩ ih
  by_cases hlt : i < L.length
  · have hih : has L (i : Int) = true := has_of hlt
    have fn : ((flat L ++ spare).drop (i * 5)).take 5 = ndL (nd L i) := flat_take (x := (i : Int)) hih
    have fcx : (boolsL L (can L K) ++ [])[i]? = some (.bool (can L K i)) := boolsL_get (x := (i : Int)) hih
    have fkx : (boolsL L K ++ sp)[i]? = some (.bool (K i)) := boolsL_get (x := (i : Int)) hih
    have hdeep := fun h1 h2 h3 h4 => short_deep (K := K) g i i (by simp) hih h1 h2 h3 h4
    have hsl : shortL L K (i : Nat) = if can L K (i : Nat) = true ∧ K (i : Nat) = false then (mixed L (i : Nat)).filter (fun y => !can L K y) else [] := rfl
    have hml := mixed_len g i i (by simp) (by omega)
    have hsll : (shortL L K (i : Nat)).length ≤ 65536 := by
      have q := List.length_filter_le (fun y => !can L K y) (mixed L (i : Nat))
      rw [hsl]
      split
      · simp at hml; omega
      · simp
    have cS : ∀ {w : World} {G : List HP}, St we ρ (Row r (flat L ++ spare) 58 :: Row gc (boolsL L (can L K) ++ []) 4 :: Row gk (boolsL L K ++ sp) 4 :: G) w → _ := fun {w G} hS => refShort (w := w) (F := G) (x := i) (cap := c) (cc := L.length) (ck := ck) g hrt hih hS
    have cP : ∀ {w : World} {G : List HP}, St we ρ (Row r (flat L ++ spare) 58 :: Row gc (boolsL L (can L K) ++ []) 4 :: Row gk (boolsL L K ++ sp) 4 :: G) w → _ := fun {w G} hS => refParted (w := w) (F := G) (x := i) (lim' := room 100) (cap := c) (cc := L.length) (ck := ck) g hih hS
    by_cases k6 : (nd L i).k = 6
    rotate_left
    · skip
      repeat' first
        | (refine RO.still (by apply Still.loadAgg; rfl; rfl; (exact eqAuto); (exact Rd.any); exact fn; rfl) hS rfl ?_)
        | (refine RO.still (by apply Still.load; rfl; rfl; (exact Rd.any); exact fkx) hS rfl ?_)
        | (refine RO.still (by apply Still.load; rfl; rfl; (exact Rd.any); exact fcx) hS rfl ?_)
        | (refine RO.still (by apply Still.load; rfl; rfl; (exact Rd.any); exact fka) hS rfl ?_)
        | (apply RO.op; apply OP.callF; rfl; rfl; rfl; show Cl _ 29 _ _ _; exact short_calls hh hih (hS.take2 (by focus ((repeat (first | apply Has.head | apply Take.head | apply Put.head | apply Has.tail | apply Take.tail | apply Put.tail)); done)) (by focus ((repeat (first | apply Has.head | apply Take.head | apply Put.head | apply Has.tail | apply Take.tail | apply Put.tail)); done))); clear hS; intro va w1 hS; obtain ⟨pv, cv, rfl⟩ := vec_slice hS)
        | (apply OP.callF; rfl; rfl; rfl; show Cl _ 29 _ _ _; exact short_calls hh hih (hS.take2 (by focus ((repeat (first | apply Has.head | apply Take.head | apply Put.head | apply Has.tail | apply Take.tail | apply Put.tail)); done)) (by focus ((repeat (first | apply Has.head | apply Take.head | apply Put.head | apply Has.tail | apply Take.tail | apply Put.tail)); done))); clear hS; intro va w1 hS; obtain ⟨pv, cv, rfl⟩ := vec_slice hS; refine ⟨(by first | exact hS | exact hS.tail | exact hS.sublist (by repeat (first | exact List.Sublist.refl _ | refine .cons_cons _ ?_ | refine .cons _ ?_))), ?_⟩)
        | (apply RO.op; apply OP.callF; rfl; rfl; rfl; show Cl _ 30 _ _ _; exact parted_calls hh hih (hS.take2 (by focus ((repeat (first | apply Has.head | apply Take.head | apply Put.head | apply Has.tail | apply Take.tail | apply Put.tail)); done)) (by focus ((repeat (first | apply Has.head | apply Take.head | apply Put.head | apply Has.tail | apply Take.tail | apply Put.tail)); done))); clear hS; rintro v w1 ⟨rfl, hS⟩)
        | (apply OP.callF; rfl; rfl; rfl; show Cl _ 30 _ _ _; exact parted_calls hh hih (hS.take2 (by focus ((repeat (first | apply Has.head | apply Take.head | apply Put.head | apply Has.tail | apply Take.tail | apply Put.tail)); done)) (by focus ((repeat (first | apply Has.head | apply Take.head | apply Put.head | apply Has.tail | apply Take.tail | apply Put.tail)); done))); clear hS; rintro v w1 ⟨rfl, hS⟩; refine ⟨(by first | exact hS | exact hS.tail | exact hS.sublist (by repeat (first | exact List.Sublist.refl _ | refine .cons_cons _ ?_ | refine .cons _ ?_))), ?_⟩)
        | (apply RO.op; apply OP.callF; rfl; rfl; rfl; show Cl _ 31 _ _ _; exact cS (take3 hS (by focus ((repeat (first | apply Has.head | apply Take.head | apply Put.head | apply Has.tail | apply Take.tail | apply Put.tail)); done)) (by focus ((repeat (first | apply Has.head | apply Take.head | apply Put.head | apply Has.tail | apply Take.tail | apply Put.tail)); done)) (by focus ((repeat (first | apply Has.head | apply Take.head | apply Put.head | apply Has.tail | apply Take.tail | apply Put.tail)); done))); clear hS; intro vb w1 hS)
        | (apply OP.callF; rfl; rfl; rfl; show Cl _ 31 _ _ _; exact cS (take3 hS (by focus ((repeat (first | apply Has.head | apply Take.head | apply Put.head | apply Has.tail | apply Take.tail | apply Put.tail)); done)) (by focus ((repeat (first | apply Has.head | apply Take.head | apply Put.head | apply Has.tail | apply Take.tail | apply Put.tail)); done)) (by focus ((repeat (first | apply Has.head | apply Take.head | apply Put.head | apply Has.tail | apply Take.tail | apply Put.tail)); done))); clear hS; intro vb w1 hS; refine ⟨(by first | exact hS | exact hS.tail | exact hS.sublist (by repeat (first | exact List.Sublist.refl _ | refine .cons_cons _ ?_ | refine .cons _ ?_))), ?_⟩)
        | (apply RO.op; apply OP.callF; rfl; rfl; rfl; show Cl _ 32 _ _ _; exact cP (take3 hS (by focus ((repeat (first | apply Has.head | apply Take.head | apply Put.head | apply Has.tail | apply Take.tail | apply Put.tail)); done)) (by focus ((repeat (first | apply Has.head | apply Take.head | apply Put.head | apply Has.tail | apply Take.tail | apply Put.tail)); done)) (by focus ((repeat (first | apply Has.head | apply Take.head | apply Put.head | apply Has.tail | apply Take.tail | apply Put.tail)); done))); clear hS; rintro v w1 ⟨rfl, hS⟩)
        | (apply OP.callF; rfl; rfl; rfl; show Cl _ 32 _ _ _; exact cP (take3 hS (by focus ((repeat (first | apply Has.head | apply Take.head | apply Put.head | apply Has.tail | apply Take.tail | apply Put.tail)); done)) (by focus ((repeat (first | apply Has.head | apply Take.head | apply Put.head | apply Has.tail | apply Take.tail | apply Put.tail)); done)) (by focus ((repeat (first | apply Has.head | apply Take.head | apply Put.head | apply Has.tail | apply Take.tail | apply Put.tail)); done))); clear hS; rintro v w1 ⟨rfl, hS⟩; refine ⟨(by first | exact hS | exact hS.tail | exact hS.sublist (by repeat (first | exact List.Sublist.refl _ | refine .cons_cons _ ?_ | refine .cons _ ?_))), ?_⟩)
        | (apply RO.op; apply OP.callF; rfl; rfl; rfl; show Cl _ 12 _ _ _; exact same_vecs (l := shortL L K i) (l' := shortL L K i) (hS.take2 (by focus ((repeat (first | apply Has.head | apply Take.head | apply Put.head | apply Has.tail | apply Take.tail | apply Put.tail)); done)) (by focus ((repeat (first | apply Has.head | apply Take.head | apply Put.head | apply Has.tail | apply Take.tail | apply Put.tail)); done))); clear hS; rintro v w1 ⟨rfl, hS⟩; rw [decide_eq_true (rfl : shortL L K (i : Nat) = shortL L K (i : Nat))])
        | (apply OP.callF; rfl; rfl; rfl; show Cl _ 12 _ _ _; exact same_vecs (l := shortL L K i) (l' := shortL L K i) (hS.take2 (by focus ((repeat (first | apply Has.head | apply Take.head | apply Put.head | apply Has.tail | apply Take.tail | apply Put.tail)); done)) (by focus ((repeat (first | apply Has.head | apply Take.head | apply Put.head | apply Has.tail | apply Take.tail | apply Put.tail)); done))); clear hS; rintro v w1 ⟨rfl, hS⟩; rw [decide_eq_true (rfl : shortL L K (i : Nat) = shortL L K (i : Nat))]; refine ⟨(by first | exact hS | exact hS.tail | exact hS.sublist (by repeat (first | exact List.Sublist.refl _ | refine .cons_cons _ ?_ | refine .cons _ ?_))), ?_⟩)
        | (apply RO.op; apply OP.callF; rfl; rfl; rfl; show Cl _ 33 _ _ _; exact deep_calls g hd hih (hS.take2 (by focus ((repeat (first | apply Has.head | apply Take.head | apply Put.head | apply Has.tail | apply Take.tail | apply Put.tail)); done)) (by focus ((repeat (first | apply Has.head | apply Take.head | apply Put.head | apply Has.tail | apply Take.tail | apply Put.tail)); done))); clear hS; rintro v w1 ⟨rfl, hS⟩)
        | (apply OP.callF; rfl; rfl; rfl; show Cl _ 33 _ _ _; exact deep_calls g hd hih (hS.take2 (by focus ((repeat (first | apply Has.head | apply Take.head | apply Put.head | apply Has.tail | apply Take.tail | apply Put.tail)); done)) (by focus ((repeat (first | apply Has.head | apply Take.head | apply Put.head | apply Has.tail | apply Take.tail | apply Put.tail)); done))); clear hS; rintro v w1 ⟨rfl, hS⟩; refine ⟨(by first | exact hS | exact hS.tail | exact hS.sublist (by repeat (first | exact List.Sublist.refl _ | refine .cons_cons _ ?_ | refine .cons _ ?_))), ?_⟩)
        | refine Run.seq ?_
        | refine Run.region ?_
        | (refine RO.split ?_ ?_ <;> intro hc <;> try (first | (exfalso; omega) | exact absurd rfl hc | exact Bool.noConfusion hc))
        | refine RO.nil ?_
        | refine RO.still (by exact Still.any) hS rfl ?_
        | (apply RO.op; apply OP.box hS; rfl; rfl; rfl; clear hS; intro b w1 hS)
        | (apply RO.op; apply OP.alloc hS; rfl; rfl; rfl; clear hS; intro b w1 hS)
        | (apply RO.op; apply OP.store hS; rfl; rfl; rfl; rfl; rfl; (focus ((repeat (first | apply Has.head | apply Take.head | apply Put.head | apply Has.tail | apply Take.tail | apply Put.tail)); done)); rfl; rfl; clear hS; intro w1 hS)
        | (apply RO.op; apply OP.buildSlice hS; rfl; rfl; (exact eqAuto); rfl; rfl; rfl; rfl; rfl; clear hS; intro b w1 hS)
        | (apply RO.op; apply OP.makeMap hS; rfl; clear hS; intro b w1 hS)
        | refine RO.yes rfl rfl ?_
        | refine RO.no rfl rfl rfl rfl ?_
        | refine RO.noUndef rfl rfl rfl ?_
        | refine RO.noNone rfl rfl rfl ?_
        | refine Run.cond_true rfl ?_
        | refine Run.cond_false rfl ?_
        | refine Run.skip ?_
        | refine Run.block ?_
        | refine Run.inBlock ?_
        | refine Run.exit rfl ?_
      all_goals refine Run.weaken (by focus ((repeat (first | exact .nil | refine .cons rfl ?_)); done)) (ih (i + 1) _ ⟨by omega, hS.picks (by focus ((repeat (first | apply Picks.all | apply Picks.nil | (refine Picks.cons (by repeat (first | apply Take.head | apply Take.tail)) ?_) | apply Picks.drop)); done))⟩ (by omega))
    rcases nd_parts g hih with h0 | ⟨p1, p2, p3, q1, q2, q3⟩
    · omega
    have r1 := has_iff.1 p1
    have fka : (boolsL L K ++ sp)[(nd L i).a.toNat]? = some (.bool (K (nd L i).a)) := boolsL_get p1
    cases hki : K (i : Nat) with
    | true =>
      rw [hki] at fkx
      repeat' first
        | (refine RO.still (by apply Still.loadAgg; rfl; rfl; (exact eqAuto); (exact Rd.any); exact fn; rfl) hS rfl ?_)
        | (refine RO.still (by apply Still.load; rfl; rfl; (exact Rd.any); exact fkx) hS rfl ?_)
        | (refine RO.still (by apply Still.load; rfl; rfl; (exact Rd.any); exact fcx) hS rfl ?_)
        | (refine RO.still (by apply Still.load; rfl; rfl; (exact Rd.any); exact fka) hS rfl ?_)
        | (apply RO.op; apply OP.callF; rfl; rfl; rfl; show Cl _ 29 _ _ _; exact short_calls hh hih (hS.take2 (by focus ((repeat (first | apply Has.head | apply Take.head | apply Put.head | apply Has.tail | apply Take.tail | apply Put.tail)); done)) (by focus ((repeat (first | apply Has.head | apply Take.head | apply Put.head | apply Has.tail | apply Take.tail | apply Put.tail)); done))); clear hS; intro va w1 hS; obtain ⟨pv, cv, rfl⟩ := vec_slice hS)
        | (apply OP.callF; rfl; rfl; rfl; show Cl _ 29 _ _ _; exact short_calls hh hih (hS.take2 (by focus ((repeat (first | apply Has.head | apply Take.head | apply Put.head | apply Has.tail | apply Take.tail | apply Put.tail)); done)) (by focus ((repeat (first | apply Has.head | apply Take.head | apply Put.head | apply Has.tail | apply Take.tail | apply Put.tail)); done))); clear hS; intro va w1 hS; obtain ⟨pv, cv, rfl⟩ := vec_slice hS; refine ⟨(by first | exact hS | exact hS.tail | exact hS.sublist (by repeat (first | exact List.Sublist.refl _ | refine .cons_cons _ ?_ | refine .cons _ ?_))), ?_⟩)
        | (apply RO.op; apply OP.callF; rfl; rfl; rfl; show Cl _ 30 _ _ _; exact parted_calls hh hih (hS.take2 (by focus ((repeat (first | apply Has.head | apply Take.head | apply Put.head | apply Has.tail | apply Take.tail | apply Put.tail)); done)) (by focus ((repeat (first | apply Has.head | apply Take.head | apply Put.head | apply Has.tail | apply Take.tail | apply Put.tail)); done))); clear hS; rintro v w1 ⟨rfl, hS⟩)
        | (apply OP.callF; rfl; rfl; rfl; show Cl _ 30 _ _ _; exact parted_calls hh hih (hS.take2 (by focus ((repeat (first | apply Has.head | apply Take.head | apply Put.head | apply Has.tail | apply Take.tail | apply Put.tail)); done)) (by focus ((repeat (first | apply Has.head | apply Take.head | apply Put.head | apply Has.tail | apply Take.tail | apply Put.tail)); done))); clear hS; rintro v w1 ⟨rfl, hS⟩; refine ⟨(by first | exact hS | exact hS.tail | exact hS.sublist (by repeat (first | exact List.Sublist.refl _ | refine .cons_cons _ ?_ | refine .cons _ ?_))), ?_⟩)
        | (apply RO.op; apply OP.callF; rfl; rfl; rfl; show Cl _ 31 _ _ _; exact cS (take3 hS (by focus ((repeat (first | apply Has.head | apply Take.head | apply Put.head | apply Has.tail | apply Take.tail | apply Put.tail)); done)) (by focus ((repeat (first | apply Has.head | apply Take.head | apply Put.head | apply Has.tail | apply Take.tail | apply Put.tail)); done)) (by focus ((repeat (first | apply Has.head | apply Take.head | apply Put.head | apply Has.tail | apply Take.tail | apply Put.tail)); done))); clear hS; intro vb w1 hS)
        | (apply OP.callF; rfl; rfl; rfl; show Cl _ 31 _ _ _; exact cS (take3 hS (by focus ((repeat (first | apply Has.head | apply Take.head | apply Put.head | apply Has.tail | apply Take.tail | apply Put.tail)); done)) (by focus ((repeat (first | apply Has.head | apply Take.head | apply Put.head | apply Has.tail | apply Take.tail | apply Put.tail)); done)) (by focus ((repeat (first | apply Has.head | apply Take.head | apply Put.head | apply Has.tail | apply Take.tail | apply Put.tail)); done))); clear hS; intro vb w1 hS; refine ⟨(by first | exact hS | exact hS.tail | exact hS.sublist (by repeat (first | exact List.Sublist.refl _ | refine .cons_cons _ ?_ | refine .cons _ ?_))), ?_⟩)
        | (apply RO.op; apply OP.callF; rfl; rfl; rfl; show Cl _ 32 _ _ _; exact cP (take3 hS (by focus ((repeat (first | apply Has.head | apply Take.head | apply Put.head | apply Has.tail | apply Take.tail | apply Put.tail)); done)) (by focus ((repeat (first | apply Has.head | apply Take.head | apply Put.head | apply Has.tail | apply Take.tail | apply Put.tail)); done)) (by focus ((repeat (first | apply Has.head | apply Take.head | apply Put.head | apply Has.tail | apply Take.tail | apply Put.tail)); done))); clear hS; rintro v w1 ⟨rfl, hS⟩)
        | (apply OP.callF; rfl; rfl; rfl; show Cl _ 32 _ _ _; exact cP (take3 hS (by focus ((repeat (first | apply Has.head | apply Take.head | apply Put.head | apply Has.tail | apply Take.tail | apply Put.tail)); done)) (by focus ((repeat (first | apply Has.head | apply Take.head | apply Put.head | apply Has.tail | apply Take.tail | apply Put.tail)); done)) (by focus ((repeat (first | apply Has.head | apply Take.head | apply Put.head | apply Has.tail | apply Take.tail | apply Put.tail)); done))); clear hS; rintro v w1 ⟨rfl, hS⟩; refine ⟨(by first | exact hS | exact hS.tail | exact hS.sublist (by repeat (first | exact List.Sublist.refl _ | refine .cons_cons _ ?_ | refine .cons _ ?_))), ?_⟩)
        | (apply RO.op; apply OP.callF; rfl; rfl; rfl; show Cl _ 12 _ _ _; exact same_vecs (l := shortL L K i) (l' := shortL L K i) (hS.take2 (by focus ((repeat (first | apply Has.head | apply Take.head | apply Put.head | apply Has.tail | apply Take.tail | apply Put.tail)); done)) (by focus ((repeat (first | apply Has.head | apply Take.head | apply Put.head | apply Has.tail | apply Take.tail | apply Put.tail)); done))); clear hS; rintro v w1 ⟨rfl, hS⟩; rw [decide_eq_true (rfl : shortL L K (i : Nat) = shortL L K (i : Nat))])
        | (apply OP.callF; rfl; rfl; rfl; show Cl _ 12 _ _ _; exact same_vecs (l := shortL L K i) (l' := shortL L K i) (hS.take2 (by focus ((repeat (first | apply Has.head | apply Take.head | apply Put.head | apply Has.tail | apply Take.tail | apply Put.tail)); done)) (by focus ((repeat (first | apply Has.head | apply Take.head | apply Put.head | apply Has.tail | apply Take.tail | apply Put.tail)); done))); clear hS; rintro v w1 ⟨rfl, hS⟩; rw [decide_eq_true (rfl : shortL L K (i : Nat) = shortL L K (i : Nat))]; refine ⟨(by first | exact hS | exact hS.tail | exact hS.sublist (by repeat (first | exact List.Sublist.refl _ | refine .cons_cons _ ?_ | refine .cons _ ?_))), ?_⟩)
        | (apply RO.op; apply OP.callF; rfl; rfl; rfl; show Cl _ 33 _ _ _; exact deep_calls g hd hih (hS.take2 (by focus ((repeat (first | apply Has.head | apply Take.head | apply Put.head | apply Has.tail | apply Take.tail | apply Put.tail)); done)) (by focus ((repeat (first | apply Has.head | apply Take.head | apply Put.head | apply Has.tail | apply Take.tail | apply Put.tail)); done))); clear hS; rintro v w1 ⟨rfl, hS⟩)
        | (apply OP.callF; rfl; rfl; rfl; show Cl _ 33 _ _ _; exact deep_calls g hd hih (hS.take2 (by focus ((repeat (first | apply Has.head | apply Take.head | apply Put.head | apply Has.tail | apply Take.tail | apply Put.tail)); done)) (by focus ((repeat (first | apply Has.head | apply Take.head | apply Put.head | apply Has.tail | apply Take.tail | apply Put.tail)); done))); clear hS; rintro v w1 ⟨rfl, hS⟩; refine ⟨(by first | exact hS | exact hS.tail | exact hS.sublist (by repeat (first | exact List.Sublist.refl _ | refine .cons_cons _ ?_ | refine .cons _ ?_))), ?_⟩)
        | refine Run.seq ?_
        | refine Run.region ?_
        | (refine RO.split ?_ ?_ <;> intro hc <;> try (first | (exfalso; omega) | exact absurd rfl hc | exact Bool.noConfusion hc))
        | refine RO.nil ?_
        | refine RO.still (by exact Still.any) hS rfl ?_
        | (apply RO.op; apply OP.box hS; rfl; rfl; rfl; clear hS; intro b w1 hS)
        | (apply RO.op; apply OP.alloc hS; rfl; rfl; rfl; clear hS; intro b w1 hS)
        | (apply RO.op; apply OP.store hS; rfl; rfl; rfl; rfl; rfl; (focus ((repeat (first | apply Has.head | apply Take.head | apply Put.head | apply Has.tail | apply Take.tail | apply Put.tail)); done)); rfl; rfl; clear hS; intro w1 hS)
        | (apply RO.op; apply OP.buildSlice hS; rfl; rfl; (exact eqAuto); rfl; rfl; rfl; rfl; rfl; clear hS; intro b w1 hS)
        | (apply RO.op; apply OP.makeMap hS; rfl; clear hS; intro b w1 hS)
        | refine RO.yes rfl rfl ?_
        | refine RO.no rfl rfl rfl rfl ?_
        | refine RO.noUndef rfl rfl rfl ?_
        | refine RO.noNone rfl rfl rfl ?_
        | refine Run.cond_true rfl ?_
        | refine Run.cond_false rfl ?_
        | refine Run.skip ?_
        | refine Run.block ?_
        | refine Run.inBlock ?_
        | refine Run.exit rfl ?_
      all_goals refine Run.weaken (by focus ((repeat (first | exact .nil | refine .cons rfl ?_)); done)) (ih (i + 1) _ ⟨by omega, hS.picks (by focus ((repeat (first | apply Picks.all | apply Picks.nil | (refine Picks.cons (by repeat (first | apply Take.head | apply Take.tail)) ?_) | apply Picks.drop)); done))⟩ (by omega))
    | false =>
      rw [hki] at fkx
      cases hci : can L K (i : Nat) with
      | false =>
        rw [hci] at fcx
        repeat' first
          | (refine RO.still (by apply Still.loadAgg; rfl; rfl; (exact eqAuto); (exact Rd.any); exact fn; rfl) hS rfl ?_)
          | (refine RO.still (by apply Still.load; rfl; rfl; (exact Rd.any); exact fkx) hS rfl ?_)
          | (refine RO.still (by apply Still.load; rfl; rfl; (exact Rd.any); exact fcx) hS rfl ?_)
          | (refine RO.still (by apply Still.load; rfl; rfl; (exact Rd.any); exact fka) hS rfl ?_)
          | (apply RO.op; apply OP.callF; rfl; rfl; rfl; show Cl _ 29 _ _ _; exact short_calls hh hih (hS.take2 (by focus ((repeat (first | apply Has.head | apply Take.head | apply Put.head | apply Has.tail | apply Take.tail | apply Put.tail)); done)) (by focus ((repeat (first | apply Has.head | apply Take.head | apply Put.head | apply Has.tail | apply Take.tail | apply Put.tail)); done))); clear hS; intro va w1 hS; obtain ⟨pv, cv, rfl⟩ := vec_slice hS)
          | (apply OP.callF; rfl; rfl; rfl; show Cl _ 29 _ _ _; exact short_calls hh hih (hS.take2 (by focus ((repeat (first | apply Has.head | apply Take.head | apply Put.head | apply Has.tail | apply Take.tail | apply Put.tail)); done)) (by focus ((repeat (first | apply Has.head | apply Take.head | apply Put.head | apply Has.tail | apply Take.tail | apply Put.tail)); done))); clear hS; intro va w1 hS; obtain ⟨pv, cv, rfl⟩ := vec_slice hS; refine ⟨(by first | exact hS | exact hS.tail | exact hS.sublist (by repeat (first | exact List.Sublist.refl _ | refine .cons_cons _ ?_ | refine .cons _ ?_))), ?_⟩)
          | (apply RO.op; apply OP.callF; rfl; rfl; rfl; show Cl _ 30 _ _ _; exact parted_calls hh hih (hS.take2 (by focus ((repeat (first | apply Has.head | apply Take.head | apply Put.head | apply Has.tail | apply Take.tail | apply Put.tail)); done)) (by focus ((repeat (first | apply Has.head | apply Take.head | apply Put.head | apply Has.tail | apply Take.tail | apply Put.tail)); done))); clear hS; rintro v w1 ⟨rfl, hS⟩)
          | (apply OP.callF; rfl; rfl; rfl; show Cl _ 30 _ _ _; exact parted_calls hh hih (hS.take2 (by focus ((repeat (first | apply Has.head | apply Take.head | apply Put.head | apply Has.tail | apply Take.tail | apply Put.tail)); done)) (by focus ((repeat (first | apply Has.head | apply Take.head | apply Put.head | apply Has.tail | apply Take.tail | apply Put.tail)); done))); clear hS; rintro v w1 ⟨rfl, hS⟩; refine ⟨(by first | exact hS | exact hS.tail | exact hS.sublist (by repeat (first | exact List.Sublist.refl _ | refine .cons_cons _ ?_ | refine .cons _ ?_))), ?_⟩)
          | (apply RO.op; apply OP.callF; rfl; rfl; rfl; show Cl _ 31 _ _ _; exact cS (take3 hS (by focus ((repeat (first | apply Has.head | apply Take.head | apply Put.head | apply Has.tail | apply Take.tail | apply Put.tail)); done)) (by focus ((repeat (first | apply Has.head | apply Take.head | apply Put.head | apply Has.tail | apply Take.tail | apply Put.tail)); done)) (by focus ((repeat (first | apply Has.head | apply Take.head | apply Put.head | apply Has.tail | apply Take.tail | apply Put.tail)); done))); clear hS; intro vb w1 hS)
          | (apply OP.callF; rfl; rfl; rfl; show Cl _ 31 _ _ _; exact cS (take3 hS (by focus ((repeat (first | apply Has.head | apply Take.head | apply Put.head | apply Has.tail | apply Take.tail | apply Put.tail)); done)) (by focus ((repeat (first | apply Has.head | apply Take.head | apply Put.head | apply Has.tail | apply Take.tail | apply Put.tail)); done)) (by focus ((repeat (first | apply Has.head | apply Take.head | apply Put.head | apply Has.tail | apply Take.tail | apply Put.tail)); done))); clear hS; intro vb w1 hS; refine ⟨(by first | exact hS | exact hS.tail | exact hS.sublist (by repeat (first | exact List.Sublist.refl _ | refine .cons_cons _ ?_ | refine .cons _ ?_))), ?_⟩)
          | (apply RO.op; apply OP.callF; rfl; rfl; rfl; show Cl _ 32 _ _ _; exact cP (take3 hS (by focus ((repeat (first | apply Has.head | apply Take.head | apply Put.head | apply Has.tail | apply Take.tail | apply Put.tail)); done)) (by focus ((repeat (first | apply Has.head | apply Take.head | apply Put.head | apply Has.tail | apply Take.tail | apply Put.tail)); done)) (by focus ((repeat (first | apply Has.head | apply Take.head | apply Put.head | apply Has.tail | apply Take.tail | apply Put.tail)); done))); clear hS; rintro v w1 ⟨rfl, hS⟩)
          | (apply OP.callF; rfl; rfl; rfl; show Cl _ 32 _ _ _; exact cP (take3 hS (by focus ((repeat (first | apply Has.head | apply Take.head | apply Put.head | apply Has.tail | apply Take.tail | apply Put.tail)); done)) (by focus ((repeat (first | apply Has.head | apply Take.head | apply Put.head | apply Has.tail | apply Take.tail | apply Put.tail)); done)) (by focus ((repeat (first | apply Has.head | apply Take.head | apply Put.head | apply Has.tail | apply Take.tail | apply Put.tail)); done))); clear hS; rintro v w1 ⟨rfl, hS⟩; refine ⟨(by first | exact hS | exact hS.tail | exact hS.sublist (by repeat (first | exact List.Sublist.refl _ | refine .cons_cons _ ?_ | refine .cons _ ?_))), ?_⟩)
          | (apply RO.op; apply OP.callF; rfl; rfl; rfl; show Cl _ 12 _ _ _; exact same_vecs (l := shortL L K i) (l' := shortL L K i) (hS.take2 (by focus ((repeat (first | apply Has.head | apply Take.head | apply Put.head | apply Has.tail | apply Take.tail | apply Put.tail)); done)) (by focus ((repeat (first | apply Has.head | apply Take.head | apply Put.head | apply Has.tail | apply Take.tail | apply Put.tail)); done))); clear hS; rintro v w1 ⟨rfl, hS⟩; rw [decide_eq_true (rfl : shortL L K (i : Nat) = shortL L K (i : Nat))])
          | (apply OP.callF; rfl; rfl; rfl; show Cl _ 12 _ _ _; exact same_vecs (l := shortL L K i) (l' := shortL L K i) (hS.take2 (by focus ((repeat (first | apply Has.head | apply Take.head | apply Put.head | apply Has.tail | apply Take.tail | apply Put.tail)); done)) (by focus ((repeat (first | apply Has.head | apply Take.head | apply Put.head | apply Has.tail | apply Take.tail | apply Put.tail)); done))); clear hS; rintro v w1 ⟨rfl, hS⟩; rw [decide_eq_true (rfl : shortL L K (i : Nat) = shortL L K (i : Nat))]; refine ⟨(by first | exact hS | exact hS.tail | exact hS.sublist (by repeat (first | exact List.Sublist.refl _ | refine .cons_cons _ ?_ | refine .cons _ ?_))), ?_⟩)
          | (apply RO.op; apply OP.callF; rfl; rfl; rfl; show Cl _ 33 _ _ _; exact deep_calls g hd hih (hS.take2 (by focus ((repeat (first | apply Has.head | apply Take.head | apply Put.head | apply Has.tail | apply Take.tail | apply Put.tail)); done)) (by focus ((repeat (first | apply Has.head | apply Take.head | apply Put.head | apply Has.tail | apply Take.tail | apply Put.tail)); done))); clear hS; rintro v w1 ⟨rfl, hS⟩)
          | (apply OP.callF; rfl; rfl; rfl; show Cl _ 33 _ _ _; exact deep_calls g hd hih (hS.take2 (by focus ((repeat (first | apply Has.head | apply Take.head | apply Put.head | apply Has.tail | apply Take.tail | apply Put.tail)); done)) (by focus ((repeat (first | apply Has.head | apply Take.head | apply Put.head | apply Has.tail | apply Take.tail | apply Put.tail)); done))); clear hS; rintro v w1 ⟨rfl, hS⟩; refine ⟨(by first | exact hS | exact hS.tail | exact hS.sublist (by repeat (first | exact List.Sublist.refl _ | refine .cons_cons _ ?_ | refine .cons _ ?_))), ?_⟩)
          | refine Run.seq ?_
          | refine Run.region ?_
          | (refine RO.split ?_ ?_ <;> intro hc <;> try (first | (exfalso; omega) | exact absurd rfl hc | exact Bool.noConfusion hc))
          | refine RO.nil ?_
          | refine RO.still (by exact Still.any) hS rfl ?_
          | (apply RO.op; apply OP.box hS; rfl; rfl; rfl; clear hS; intro b w1 hS)
          | (apply RO.op; apply OP.alloc hS; rfl; rfl; rfl; clear hS; intro b w1 hS)
          | (apply RO.op; apply OP.store hS; rfl; rfl; rfl; rfl; rfl; (focus ((repeat (first | apply Has.head | apply Take.head | apply Put.head | apply Has.tail | apply Take.tail | apply Put.tail)); done)); rfl; rfl; clear hS; intro w1 hS)
          | (apply RO.op; apply OP.buildSlice hS; rfl; rfl; (exact eqAuto); rfl; rfl; rfl; rfl; rfl; clear hS; intro b w1 hS)
          | (apply RO.op; apply OP.makeMap hS; rfl; clear hS; intro b w1 hS)
          | refine RO.yes rfl rfl ?_
          | refine RO.no rfl rfl rfl rfl ?_
          | refine RO.noUndef rfl rfl rfl ?_
          | refine RO.noNone rfl rfl rfl ?_
          | refine Run.cond_true rfl ?_
          | refine Run.cond_false rfl ?_
          | refine Run.skip ?_
          | refine Run.block ?_
          | refine Run.inBlock ?_
          | refine Run.exit rfl ?_
        all_goals refine Run.weaken (by focus ((repeat (first | exact .nil | refine .cons rfl ?_)); done)) (ih (i + 1) _ ⟨by omega, hS.picks (by focus ((repeat (first | apply Picks.all | apply Picks.nil | (refine Picks.cons (by repeat (first | apply Take.head | apply Take.tail)) ?_) | apply Picks.drop)); done))⟩ (by omega))
      | true =>
        rw [hci] at fcx
        cases hka : K (nd L i).a with
        | true =>
          rw [hka] at fka
          repeat' first
            | (refine RO.still (by apply Still.loadAgg; rfl; rfl; (exact eqAuto); (exact Rd.any); exact fn; rfl) hS rfl ?_)
            | (refine RO.still (by apply Still.load; rfl; rfl; (exact Rd.any); exact fkx) hS rfl ?_)
            | (refine RO.still (by apply Still.load; rfl; rfl; (exact Rd.any); exact fcx) hS rfl ?_)
            | (refine RO.still (by apply Still.load; rfl; rfl; (exact Rd.any); exact fka) hS rfl ?_)
            | (apply RO.op; apply OP.callF; rfl; rfl; rfl; show Cl _ 29 _ _ _; exact short_calls hh hih (hS.take2 (by focus ((repeat (first | apply Has.head | apply Take.head | apply Put.head | apply Has.tail | apply Take.tail | apply Put.tail)); done)) (by focus ((repeat (first | apply Has.head | apply Take.head | apply Put.head | apply Has.tail | apply Take.tail | apply Put.tail)); done))); clear hS; intro va w1 hS; obtain ⟨pv, cv, rfl⟩ := vec_slice hS)
            | (apply OP.callF; rfl; rfl; rfl; show Cl _ 29 _ _ _; exact short_calls hh hih (hS.take2 (by focus ((repeat (first | apply Has.head | apply Take.head | apply Put.head | apply Has.tail | apply Take.tail | apply Put.tail)); done)) (by focus ((repeat (first | apply Has.head | apply Take.head | apply Put.head | apply Has.tail | apply Take.tail | apply Put.tail)); done))); clear hS; intro va w1 hS; obtain ⟨pv, cv, rfl⟩ := vec_slice hS; refine ⟨(by first | exact hS | exact hS.tail | exact hS.sublist (by repeat (first | exact List.Sublist.refl _ | refine .cons_cons _ ?_ | refine .cons _ ?_))), ?_⟩)
            | (apply RO.op; apply OP.callF; rfl; rfl; rfl; show Cl _ 30 _ _ _; exact parted_calls hh hih (hS.take2 (by focus ((repeat (first | apply Has.head | apply Take.head | apply Put.head | apply Has.tail | apply Take.tail | apply Put.tail)); done)) (by focus ((repeat (first | apply Has.head | apply Take.head | apply Put.head | apply Has.tail | apply Take.tail | apply Put.tail)); done))); clear hS; rintro v w1 ⟨rfl, hS⟩)
            | (apply OP.callF; rfl; rfl; rfl; show Cl _ 30 _ _ _; exact parted_calls hh hih (hS.take2 (by focus ((repeat (first | apply Has.head | apply Take.head | apply Put.head | apply Has.tail | apply Take.tail | apply Put.tail)); done)) (by focus ((repeat (first | apply Has.head | apply Take.head | apply Put.head | apply Has.tail | apply Take.tail | apply Put.tail)); done))); clear hS; rintro v w1 ⟨rfl, hS⟩; refine ⟨(by first | exact hS | exact hS.tail | exact hS.sublist (by repeat (first | exact List.Sublist.refl _ | refine .cons_cons _ ?_ | refine .cons _ ?_))), ?_⟩)
            | (apply RO.op; apply OP.callF; rfl; rfl; rfl; show Cl _ 31 _ _ _; exact cS (take3 hS (by focus ((repeat (first | apply Has.head | apply Take.head | apply Put.head | apply Has.tail | apply Take.tail | apply Put.tail)); done)) (by focus ((repeat (first | apply Has.head | apply Take.head | apply Put.head | apply Has.tail | apply Take.tail | apply Put.tail)); done)) (by focus ((repeat (first | apply Has.head | apply Take.head | apply Put.head | apply Has.tail | apply Take.tail | apply Put.tail)); done))); clear hS; intro vb w1 hS)
            | (apply OP.callF; rfl; rfl; rfl; show Cl _ 31 _ _ _; exact cS (take3 hS (by focus ((repeat (first | apply Has.head | apply Take.head | apply Put.head | apply Has.tail | apply Take.tail | apply Put.tail)); done)) (by focus ((repeat (first | apply Has.head | apply Take.head | apply Put.head | apply Has.tail | apply Take.tail | apply Put.tail)); done)) (by focus ((repeat (first | apply Has.head | apply Take.head | apply Put.head | apply Has.tail | apply Take.tail | apply Put.tail)); done))); clear hS; intro vb w1 hS; refine ⟨(by first | exact hS | exact hS.tail | exact hS.sublist (by repeat (first | exact List.Sublist.refl _ | refine .cons_cons _ ?_ | refine .cons _ ?_))), ?_⟩)
            | (apply RO.op; apply OP.callF; rfl; rfl; rfl; show Cl _ 32 _ _ _; exact cP (take3 hS (by focus ((repeat (first | apply Has.head | apply Take.head | apply Put.head | apply Has.tail | apply Take.tail | apply Put.tail)); done)) (by focus ((repeat (first | apply Has.head | apply Take.head | apply Put.head | apply Has.tail | apply Take.tail | apply Put.tail)); done)) (by focus ((repeat (first | apply Has.head | apply Take.head | apply Put.head | apply Has.tail | apply Take.tail | apply Put.tail)); done))); clear hS; rintro v w1 ⟨rfl, hS⟩)
            | (apply OP.callF; rfl; rfl; rfl; show Cl _ 32 _ _ _; exact cP (take3 hS (by focus ((repeat (first | apply Has.head | apply Take.head | apply Put.head | apply Has.tail | apply Take.tail | apply Put.tail)); done)) (by focus ((repeat (first | apply Has.head | apply Take.head | apply Put.head | apply Has.tail | apply Take.tail | apply Put.tail)); done)) (by focus ((repeat (first | apply Has.head | apply Take.head | apply Put.head | apply Has.tail | apply Take.tail | apply Put.tail)); done))); clear hS; rintro v w1 ⟨rfl, hS⟩; refine ⟨(by first | exact hS | exact hS.tail | exact hS.sublist (by repeat (first | exact List.Sublist.refl _ | refine .cons_cons _ ?_ | refine .cons _ ?_))), ?_⟩)
            | (apply RO.op; apply OP.callF; rfl; rfl; rfl; show Cl _ 12 _ _ _; exact same_vecs (l := shortL L K i) (l' := shortL L K i) (hS.take2 (by focus ((repeat (first | apply Has.head | apply Take.head | apply Put.head | apply Has.tail | apply Take.tail | apply Put.tail)); done)) (by focus ((repeat (first | apply Has.head | apply Take.head | apply Put.head | apply Has.tail | apply Take.tail | apply Put.tail)); done))); clear hS; rintro v w1 ⟨rfl, hS⟩; rw [decide_eq_true (rfl : shortL L K (i : Nat) = shortL L K (i : Nat))])
            | (apply OP.callF; rfl; rfl; rfl; show Cl _ 12 _ _ _; exact same_vecs (l := shortL L K i) (l' := shortL L K i) (hS.take2 (by focus ((repeat (first | apply Has.head | apply Take.head | apply Put.head | apply Has.tail | apply Take.tail | apply Put.tail)); done)) (by focus ((repeat (first | apply Has.head | apply Take.head | apply Put.head | apply Has.tail | apply Take.tail | apply Put.tail)); done))); clear hS; rintro v w1 ⟨rfl, hS⟩; rw [decide_eq_true (rfl : shortL L K (i : Nat) = shortL L K (i : Nat))]; refine ⟨(by first | exact hS | exact hS.tail | exact hS.sublist (by repeat (first | exact List.Sublist.refl _ | refine .cons_cons _ ?_ | refine .cons _ ?_))), ?_⟩)
            | (apply RO.op; apply OP.callF; rfl; rfl; rfl; show Cl _ 33 _ _ _; exact deep_calls g hd hih (hS.take2 (by focus ((repeat (first | apply Has.head | apply Take.head | apply Put.head | apply Has.tail | apply Take.tail | apply Put.tail)); done)) (by focus ((repeat (first | apply Has.head | apply Take.head | apply Put.head | apply Has.tail | apply Take.tail | apply Put.tail)); done))); clear hS; rintro v w1 ⟨rfl, hS⟩)
            | (apply OP.callF; rfl; rfl; rfl; show Cl _ 33 _ _ _; exact deep_calls g hd hih (hS.take2 (by focus ((repeat (first | apply Has.head | apply Take.head | apply Put.head | apply Has.tail | apply Take.tail | apply Put.tail)); done)) (by focus ((repeat (first | apply Has.head | apply Take.head | apply Put.head | apply Has.tail | apply Take.tail | apply Put.tail)); done))); clear hS; rintro v w1 ⟨rfl, hS⟩; refine ⟨(by first | exact hS | exact hS.tail | exact hS.sublist (by repeat (first | exact List.Sublist.refl _ | refine .cons_cons _ ?_ | refine .cons _ ?_))), ?_⟩)
            | refine Run.seq ?_
            | refine Run.region ?_
            | (refine RO.split ?_ ?_ <;> intro hc <;> try (first | (exfalso; omega) | exact absurd rfl hc | exact Bool.noConfusion hc))
            | refine RO.nil ?_
            | refine RO.still (by exact Still.any) hS rfl ?_
            | (apply RO.op; apply OP.box hS; rfl; rfl; rfl; clear hS; intro b w1 hS)
            | (apply RO.op; apply OP.alloc hS; rfl; rfl; rfl; clear hS; intro b w1 hS)
            | (apply RO.op; apply OP.store hS; rfl; rfl; rfl; rfl; rfl; (focus ((repeat (first | apply Has.head | apply Take.head | apply Put.head | apply Has.tail | apply Take.tail | apply Put.tail)); done)); rfl; rfl; clear hS; intro w1 hS)
            | (apply RO.op; apply OP.buildSlice hS; rfl; rfl; (exact eqAuto); rfl; rfl; rfl; rfl; rfl; clear hS; intro b w1 hS)
            | (apply RO.op; apply OP.makeMap hS; rfl; clear hS; intro b w1 hS)
            | refine RO.yes rfl rfl ?_
            | refine RO.no rfl rfl rfl rfl ?_
            | refine RO.noUndef rfl rfl rfl ?_
            | refine RO.noNone rfl rfl rfl ?_
            | refine Run.cond_true rfl ?_
            | refine Run.cond_false rfl ?_
            | refine Run.skip ?_
            | refine Run.block ?_
            | refine Run.inBlock ?_
            | refine Run.exit rfl ?_
          all_goals refine Run.weaken (by focus ((repeat (first | exact .nil | refine .cons rfl ?_)); done)) (ih (i + 1) _ ⟨by omega, hS.picks (by focus ((repeat (first | apply Picks.all | apply Picks.nil | (refine Picks.cons (by repeat (first | apply Take.head | apply Take.tail)) ?_) | apply Picks.drop)); done))⟩ (by omega))
        | false =>
          rw [hka] at fka
          by_cases hz : (shortL L K (i : Nat)).length = 0
          · skip
            repeat' first
              | (refine RO.still (by apply Still.loadAgg; rfl; rfl; (exact eqAuto); (exact Rd.any); exact fn; rfl) hS rfl ?_)
              | (refine RO.still (by apply Still.load; rfl; rfl; (exact Rd.any); exact fkx) hS rfl ?_)
              | (refine RO.still (by apply Still.load; rfl; rfl; (exact Rd.any); exact fcx) hS rfl ?_)
              | (refine RO.still (by apply Still.load; rfl; rfl; (exact Rd.any); exact fka) hS rfl ?_)
              | (apply RO.op; apply OP.callF; rfl; rfl; rfl; show Cl _ 29 _ _ _; exact short_calls hh hih (hS.take2 (by focus ((repeat (first | apply Has.head | apply Take.head | apply Put.head | apply Has.tail | apply Take.tail | apply Put.tail)); done)) (by focus ((repeat (first | apply Has.head | apply Take.head | apply Put.head | apply Has.tail | apply Take.tail | apply Put.tail)); done))); clear hS; intro va w1 hS; obtain ⟨pv, cv, rfl⟩ := vec_slice hS)
              | (apply OP.callF; rfl; rfl; rfl; show Cl _ 29 _ _ _; exact short_calls hh hih (hS.take2 (by focus ((repeat (first | apply Has.head | apply Take.head | apply Put.head | apply Has.tail | apply Take.tail | apply Put.tail)); done)) (by focus ((repeat (first | apply Has.head | apply Take.head | apply Put.head | apply Has.tail | apply Take.tail | apply Put.tail)); done))); clear hS; intro va w1 hS; obtain ⟨pv, cv, rfl⟩ := vec_slice hS; refine ⟨(by first | exact hS | exact hS.tail | exact hS.sublist (by repeat (first | exact List.Sublist.refl _ | refine .cons_cons _ ?_ | refine .cons _ ?_))), ?_⟩)
              | (apply RO.op; apply OP.callF; rfl; rfl; rfl; show Cl _ 30 _ _ _; exact parted_calls hh hih (hS.take2 (by focus ((repeat (first | apply Has.head | apply Take.head | apply Put.head | apply Has.tail | apply Take.tail | apply Put.tail)); done)) (by focus ((repeat (first | apply Has.head | apply Take.head | apply Put.head | apply Has.tail | apply Take.tail | apply Put.tail)); done))); clear hS; rintro v w1 ⟨rfl, hS⟩)
              | (apply OP.callF; rfl; rfl; rfl; show Cl _ 30 _ _ _; exact parted_calls hh hih (hS.take2 (by focus ((repeat (first | apply Has.head | apply Take.head | apply Put.head | apply Has.tail | apply Take.tail | apply Put.tail)); done)) (by focus ((repeat (first | apply Has.head | apply Take.head | apply Put.head | apply Has.tail | apply Take.tail | apply Put.tail)); done))); clear hS; rintro v w1 ⟨rfl, hS⟩; refine ⟨(by first | exact hS | exact hS.tail | exact hS.sublist (by repeat (first | exact List.Sublist.refl _ | refine .cons_cons _ ?_ | refine .cons _ ?_))), ?_⟩)
              | (apply RO.op; apply OP.callF; rfl; rfl; rfl; show Cl _ 31 _ _ _; exact cS (take3 hS (by focus ((repeat (first | apply Has.head | apply Take.head | apply Put.head | apply Has.tail | apply Take.tail | apply Put.tail)); done)) (by focus ((repeat (first | apply Has.head | apply Take.head | apply Put.head | apply Has.tail | apply Take.tail | apply Put.tail)); done)) (by focus ((repeat (first | apply Has.head | apply Take.head | apply Put.head | apply Has.tail | apply Take.tail | apply Put.tail)); done))); clear hS; intro vb w1 hS)
              | (apply OP.callF; rfl; rfl; rfl; show Cl _ 31 _ _ _; exact cS (take3 hS (by focus ((repeat (first | apply Has.head | apply Take.head | apply Put.head | apply Has.tail | apply Take.tail | apply Put.tail)); done)) (by focus ((repeat (first | apply Has.head | apply Take.head | apply Put.head | apply Has.tail | apply Take.tail | apply Put.tail)); done)) (by focus ((repeat (first | apply Has.head | apply Take.head | apply Put.head | apply Has.tail | apply Take.tail | apply Put.tail)); done))); clear hS; intro vb w1 hS; refine ⟨(by first | exact hS | exact hS.tail | exact hS.sublist (by repeat (first | exact List.Sublist.refl _ | refine .cons_cons _ ?_ | refine .cons _ ?_))), ?_⟩)
              | (apply RO.op; apply OP.callF; rfl; rfl; rfl; show Cl _ 32 _ _ _; exact cP (take3 hS (by focus ((repeat (first | apply Has.head | apply Take.head | apply Put.head | apply Has.tail | apply Take.tail | apply Put.tail)); done)) (by focus ((repeat (first | apply Has.head | apply Take.head | apply Put.head | apply Has.tail | apply Take.tail | apply Put.tail)); done)) (by focus ((repeat (first | apply Has.head | apply Take.head | apply Put.head | apply Has.tail | apply Take.tail | apply Put.tail)); done))); clear hS; rintro v w1 ⟨rfl, hS⟩)
              | (apply OP.callF; rfl; rfl; rfl; show Cl _ 32 _ _ _; exact cP (take3 hS (by focus ((repeat (first | apply Has.head | apply Take.head | apply Put.head | apply Has.tail | apply Take.tail | apply Put.tail)); done)) (by focus ((repeat (first | apply Has.head | apply Take.head | apply Put.head | apply Has.tail | apply Take.tail | apply Put.tail)); done)) (by focus ((repeat (first | apply Has.head | apply Take.head | apply Put.head | apply Has.tail | apply Take.tail | apply Put.tail)); done))); clear hS; rintro v w1 ⟨rfl, hS⟩; refine ⟨(by first | exact hS | exact hS.tail | exact hS.sublist (by repeat (first | exact List.Sublist.refl _ | refine .cons_cons _ ?_ | refine .cons _ ?_))), ?_⟩)
              | (apply RO.op; apply OP.callF; rfl; rfl; rfl; show Cl _ 12 _ _ _; exact same_vecs (l := shortL L K i) (l' := shortL L K i) (hS.take2 (by focus ((repeat (first | apply Has.head | apply Take.head | apply Put.head | apply Has.tail | apply Take.tail | apply Put.tail)); done)) (by focus ((repeat (first | apply Has.head | apply Take.head | apply Put.head | apply Has.tail | apply Take.tail | apply Put.tail)); done))); clear hS; rintro v w1 ⟨rfl, hS⟩; rw [decide_eq_true (rfl : shortL L K (i : Nat) = shortL L K (i : Nat))])
              | (apply OP.callF; rfl; rfl; rfl; show Cl _ 12 _ _ _; exact same_vecs (l := shortL L K i) (l' := shortL L K i) (hS.take2 (by focus ((repeat (first | apply Has.head | apply Take.head | apply Put.head | apply Has.tail | apply Take.tail | apply Put.tail)); done)) (by focus ((repeat (first | apply Has.head | apply Take.head | apply Put.head | apply Has.tail | apply Take.tail | apply Put.tail)); done))); clear hS; rintro v w1 ⟨rfl, hS⟩; rw [decide_eq_true (rfl : shortL L K (i : Nat) = shortL L K (i : Nat))]; refine ⟨(by first | exact hS | exact hS.tail | exact hS.sublist (by repeat (first | exact List.Sublist.refl _ | refine .cons_cons _ ?_ | refine .cons _ ?_))), ?_⟩)
              | (apply RO.op; apply OP.callF; rfl; rfl; rfl; show Cl _ 33 _ _ _; exact deep_calls g hd hih (hS.take2 (by focus ((repeat (first | apply Has.head | apply Take.head | apply Put.head | apply Has.tail | apply Take.tail | apply Put.tail)); done)) (by focus ((repeat (first | apply Has.head | apply Take.head | apply Put.head | apply Has.tail | apply Take.tail | apply Put.tail)); done))); clear hS; rintro v w1 ⟨rfl, hS⟩)
              | (apply OP.callF; rfl; rfl; rfl; show Cl _ 33 _ _ _; exact deep_calls g hd hih (hS.take2 (by focus ((repeat (first | apply Has.head | apply Take.head | apply Put.head | apply Has.tail | apply Take.tail | apply Put.tail)); done)) (by focus ((repeat (first | apply Has.head | apply Take.head | apply Put.head | apply Has.tail | apply Take.tail | apply Put.tail)); done))); clear hS; rintro v w1 ⟨rfl, hS⟩; refine ⟨(by first | exact hS | exact hS.tail | exact hS.sublist (by repeat (first | exact List.Sublist.refl _ | refine .cons_cons _ ?_ | refine .cons _ ?_))), ?_⟩)
              | refine Run.seq ?_
              | refine Run.region ?_
              | (refine RO.split ?_ ?_ <;> intro hc <;> try (first | (exfalso; omega) | exact absurd rfl hc | exact Bool.noConfusion hc))
              | refine RO.nil ?_
              | refine RO.still (by exact Still.any) hS rfl ?_
              | (apply RO.op; apply OP.box hS; rfl; rfl; rfl; clear hS; intro b w1 hS)
              | (apply RO.op; apply OP.alloc hS; rfl; rfl; rfl; clear hS; intro b w1 hS)
              | (apply RO.op; apply OP.store hS; rfl; rfl; rfl; rfl; rfl; (focus ((repeat (first | apply Has.head | apply Take.head | apply Put.head | apply Has.tail | apply Take.tail | apply Put.tail)); done)); rfl; rfl; clear hS; intro w1 hS)
              | (apply RO.op; apply OP.buildSlice hS; rfl; rfl; (exact eqAuto); rfl; rfl; rfl; rfl; rfl; clear hS; intro b w1 hS)
              | (apply RO.op; apply OP.makeMap hS; rfl; clear hS; intro b w1 hS)
              | refine RO.yes rfl rfl ?_
              | refine RO.no rfl rfl rfl rfl ?_
              | refine RO.noUndef rfl rfl rfl ?_
              | refine RO.noNone rfl rfl rfl ?_
              | refine Run.cond_true rfl ?_
              | refine Run.cond_false rfl ?_
              | refine Run.skip ?_
              | refine Run.block ?_
              | refine Run.inBlock ?_
              | refine Run.exit rfl ?_
            all_goals refine Run.weaken (by focus ((repeat (first | exact .nil | refine .cons rfl ?_)); done)) (ih (i + 1) _ ⟨by omega, hS.picks (by focus ((repeat (first | apply Picks.all | apply Picks.nil | (refine Picks.cons (by repeat (first | apply Take.head | apply Take.tail)) ?_) | apply Picks.drop)); done))⟩ (by omega))
          · have hne : (mixed L (i : Nat)).filter (fun y => !can L K y) ≠ [] := by
              intro h
              rw [hsl, if_pos ⟨hci, hki⟩, h] at hz
              exact hz rfl
            have hd := hdeep k6 hki hci hne
            repeat' first
              | (refine RO.still (by apply Still.loadAgg; rfl; rfl; (exact eqAuto); (exact Rd.any); exact fn; rfl) hS rfl ?_)
              | (refine RO.still (by apply Still.load; rfl; rfl; (exact Rd.any); exact fkx) hS rfl ?_)
              | (refine RO.still (by apply Still.load; rfl; rfl; (exact Rd.any); exact fcx) hS rfl ?_)
              | (refine RO.still (by apply Still.load; rfl; rfl; (exact Rd.any); exact fka) hS rfl ?_)
              | (apply RO.op; apply OP.callF; rfl; rfl; rfl; show Cl _ 29 _ _ _; exact short_calls hh hih (hS.take2 (by focus ((repeat (first | apply Has.head | apply Take.head | apply Put.head | apply Has.tail | apply Take.tail | apply Put.tail)); done)) (by focus ((repeat (first | apply Has.head | apply Take.head | apply Put.head | apply Has.tail | apply Take.tail | apply Put.tail)); done))); clear hS; intro va w1 hS; obtain ⟨pv, cv, rfl⟩ := vec_slice hS)
              | (apply OP.callF; rfl; rfl; rfl; show Cl _ 29 _ _ _; exact short_calls hh hih (hS.take2 (by focus ((repeat (first | apply Has.head | apply Take.head | apply Put.head | apply Has.tail | apply Take.tail | apply Put.tail)); done)) (by focus ((repeat (first | apply Has.head | apply Take.head | apply Put.head | apply Has.tail | apply Take.tail | apply Put.tail)); done))); clear hS; intro va w1 hS; obtain ⟨pv, cv, rfl⟩ := vec_slice hS; refine ⟨(by first | exact hS | exact hS.tail | exact hS.sublist (by repeat (first | exact List.Sublist.refl _ | refine .cons_cons _ ?_ | refine .cons _ ?_))), ?_⟩)
              | (apply RO.op; apply OP.callF; rfl; rfl; rfl; show Cl _ 30 _ _ _; exact parted_calls hh hih (hS.take2 (by focus ((repeat (first | apply Has.head | apply Take.head | apply Put.head | apply Has.tail | apply Take.tail | apply Put.tail)); done)) (by focus ((repeat (first | apply Has.head | apply Take.head | apply Put.head | apply Has.tail | apply Take.tail | apply Put.tail)); done))); clear hS; rintro v w1 ⟨rfl, hS⟩)
              | (apply OP.callF; rfl; rfl; rfl; show Cl _ 30 _ _ _; exact parted_calls hh hih (hS.take2 (by focus ((repeat (first | apply Has.head | apply Take.head | apply Put.head | apply Has.tail | apply Take.tail | apply Put.tail)); done)) (by focus ((repeat (first | apply Has.head | apply Take.head | apply Put.head | apply Has.tail | apply Take.tail | apply Put.tail)); done))); clear hS; rintro v w1 ⟨rfl, hS⟩; refine ⟨(by first | exact hS | exact hS.tail | exact hS.sublist (by repeat (first | exact List.Sublist.refl _ | refine .cons_cons _ ?_ | refine .cons _ ?_))), ?_⟩)
              | (apply RO.op; apply OP.callF; rfl; rfl; rfl; show Cl _ 31 _ _ _; exact cS (take3 hS (by focus ((repeat (first | apply Has.head | apply Take.head | apply Put.head | apply Has.tail | apply Take.tail | apply Put.tail)); done)) (by focus ((repeat (first | apply Has.head | apply Take.head | apply Put.head | apply Has.tail | apply Take.tail | apply Put.tail)); done)) (by focus ((repeat (first | apply Has.head | apply Take.head | apply Put.head | apply Has.tail | apply Take.tail | apply Put.tail)); done))); clear hS; intro vb w1 hS)
              | (apply OP.callF; rfl; rfl; rfl; show Cl _ 31 _ _ _; exact cS (take3 hS (by focus ((repeat (first | apply Has.head | apply Take.head | apply Put.head | apply Has.tail | apply Take.tail | apply Put.tail)); done)) (by focus ((repeat (first | apply Has.head | apply Take.head | apply Put.head | apply Has.tail | apply Take.tail | apply Put.tail)); done)) (by focus ((repeat (first | apply Has.head | apply Take.head | apply Put.head | apply Has.tail | apply Take.tail | apply Put.tail)); done))); clear hS; intro vb w1 hS; refine ⟨(by first | exact hS | exact hS.tail | exact hS.sublist (by repeat (first | exact List.Sublist.refl _ | refine .cons_cons _ ?_ | refine .cons _ ?_))), ?_⟩)
              | (apply RO.op; apply OP.callF; rfl; rfl; rfl; show Cl _ 32 _ _ _; exact cP (take3 hS (by focus ((repeat (first | apply Has.head | apply Take.head | apply Put.head | apply Has.tail | apply Take.tail | apply Put.tail)); done)) (by focus ((repeat (first | apply Has.head | apply Take.head | apply Put.head | apply Has.tail | apply Take.tail | apply Put.tail)); done)) (by focus ((repeat (first | apply Has.head | apply Take.head | apply Put.head | apply Has.tail | apply Take.tail | apply Put.tail)); done))); clear hS; rintro v w1 ⟨rfl, hS⟩)
              | (apply OP.callF; rfl; rfl; rfl; show Cl _ 32 _ _ _; exact cP (take3 hS (by focus ((repeat (first | apply Has.head | apply Take.head | apply Put.head | apply Has.tail | apply Take.tail | apply Put.tail)); done)) (by focus ((repeat (first | apply Has.head | apply Take.head | apply Put.head | apply Has.tail | apply Take.tail | apply Put.tail)); done)) (by focus ((repeat (first | apply Has.head | apply Take.head | apply Put.head | apply Has.tail | apply Take.tail | apply Put.tail)); done))); clear hS; rintro v w1 ⟨rfl, hS⟩; refine ⟨(by first | exact hS | exact hS.tail | exact hS.sublist (by repeat (first | exact List.Sublist.refl _ | refine .cons_cons _ ?_ | refine .cons _ ?_))), ?_⟩)
              | (apply RO.op; apply OP.callF; rfl; rfl; rfl; show Cl _ 12 _ _ _; exact same_vecs (l := shortL L K i) (l' := shortL L K i) (hS.take2 (by focus ((repeat (first | apply Has.head | apply Take.head | apply Put.head | apply Has.tail | apply Take.tail | apply Put.tail)); done)) (by focus ((repeat (first | apply Has.head | apply Take.head | apply Put.head | apply Has.tail | apply Take.tail | apply Put.tail)); done))); clear hS; rintro v w1 ⟨rfl, hS⟩; rw [decide_eq_true (rfl : shortL L K (i : Nat) = shortL L K (i : Nat))])
              | (apply OP.callF; rfl; rfl; rfl; show Cl _ 12 _ _ _; exact same_vecs (l := shortL L K i) (l' := shortL L K i) (hS.take2 (by focus ((repeat (first | apply Has.head | apply Take.head | apply Put.head | apply Has.tail | apply Take.tail | apply Put.tail)); done)) (by focus ((repeat (first | apply Has.head | apply Take.head | apply Put.head | apply Has.tail | apply Take.tail | apply Put.tail)); done))); clear hS; rintro v w1 ⟨rfl, hS⟩; rw [decide_eq_true (rfl : shortL L K (i : Nat) = shortL L K (i : Nat))]; refine ⟨(by first | exact hS | exact hS.tail | exact hS.sublist (by repeat (first | exact List.Sublist.refl _ | refine .cons_cons _ ?_ | refine .cons _ ?_))), ?_⟩)
              | (apply RO.op; apply OP.callF; rfl; rfl; rfl; show Cl _ 33 _ _ _; exact deep_calls g hd hih (hS.take2 (by focus ((repeat (first | apply Has.head | apply Take.head | apply Put.head | apply Has.tail | apply Take.tail | apply Put.tail)); done)) (by focus ((repeat (first | apply Has.head | apply Take.head | apply Put.head | apply Has.tail | apply Take.tail | apply Put.tail)); done))); clear hS; rintro v w1 ⟨rfl, hS⟩)
              | (apply OP.callF; rfl; rfl; rfl; show Cl _ 33 _ _ _; exact deep_calls g hd hih (hS.take2 (by focus ((repeat (first | apply Has.head | apply Take.head | apply Put.head | apply Has.tail | apply Take.tail | apply Put.tail)); done)) (by focus ((repeat (first | apply Has.head | apply Take.head | apply Put.head | apply Has.tail | apply Take.tail | apply Put.tail)); done))); clear hS; rintro v w1 ⟨rfl, hS⟩; refine ⟨(by first | exact hS | exact hS.tail | exact hS.sublist (by repeat (first | exact List.Sublist.refl _ | refine .cons_cons _ ?_ | refine .cons _ ?_))), ?_⟩)
              | refine Run.seq ?_
              | refine Run.region ?_
              | (refine RO.split ?_ ?_ <;> intro hc <;> try (first | (exfalso; omega) | exact absurd rfl hc | exact Bool.noConfusion hc))
              | refine RO.nil ?_
              | refine RO.still (by exact Still.any) hS rfl ?_
              | (apply RO.op; apply OP.box hS; rfl; rfl; rfl; clear hS; intro b w1 hS)
              | (apply RO.op; apply OP.alloc hS; rfl; rfl; rfl; clear hS; intro b w1 hS)
              | (apply RO.op; apply OP.store hS; rfl; rfl; rfl; rfl; rfl; (focus ((repeat (first | apply Has.head | apply Take.head | apply Put.head | apply Has.tail | apply Take.tail | apply Put.tail)); done)); rfl; rfl; clear hS; intro w1 hS)
              | (apply RO.op; apply OP.buildSlice hS; rfl; rfl; (exact eqAuto); rfl; rfl; rfl; rfl; rfl; clear hS; intro b w1 hS)
              | (apply RO.op; apply OP.makeMap hS; rfl; clear hS; intro b w1 hS)
              | refine RO.yes rfl rfl ?_
              | refine RO.no rfl rfl rfl rfl ?_
              | refine RO.noUndef rfl rfl rfl ?_
              | refine RO.noNone rfl rfl rfl ?_
              | refine Run.cond_true rfl ?_
              | refine Run.cond_false rfl ?_
              | refine Run.skip ?_
              | refine Run.block ?_
              | refine Run.inBlock ?_
              | refine Run.exit rfl ?_
            all_goals refine Run.weaken (by focus ((repeat (first | exact .nil | refine .cons rfl ?_)); done)) (ih (i + 1) _ ⟨by omega, hS.picks (by focus ((repeat (first | apply Picks.all | apply Picks.nil | (refine Picks.cons (by repeat (first | apply Take.head | apply Take.tail)) ?_) | apply Picks.drop)); done))⟩ (by omega))
  · obtain rfl : i = L.length := by omega
    repeat' first
      | (apply RO.op; apply OP.callF; rfl; rfl; rfl; show Cl _ 10 _ _ _; exact awake_calls hS; clear hS; rintro v w1 ⟨rfl, hS⟩)
      | (apply OP.callF; rfl; rfl; rfl; show Cl _ 10 _ _ _; exact awake_calls hS; clear hS; rintro v w1 ⟨rfl, hS⟩; refine ⟨(by first | exact hS | exact hS.tail | exact hS.sublist (by repeat (first | exact List.Sublist.refl _ | refine .cons_cons _ ?_ | refine .cons _ ?_))), ?_⟩)
      | refine Run.seq ?_
      | refine Run.region ?_
      | (refine RO.split ?_ ?_ <;> intro hc <;> try (first | (exfalso; omega) | exact absurd rfl hc | exact Bool.noConfusion hc))
      | refine RO.nil ?_
      | refine RO.still (by exact Still.any) hS rfl ?_
      | (apply RO.op; apply OP.box hS; rfl; rfl; rfl; clear hS; intro b w1 hS)
      | (apply RO.op; apply OP.alloc hS; rfl; rfl; rfl; clear hS; intro b w1 hS)
      | (apply RO.op; apply OP.store hS; rfl; rfl; rfl; rfl; rfl; (focus ((repeat (first | apply Has.head | apply Take.head | apply Put.head | apply Has.tail | apply Take.tail | apply Put.tail)); done)); rfl; rfl; clear hS; intro w1 hS)
      | (apply RO.op; apply OP.buildSlice hS; rfl; rfl; (exact eqAuto); rfl; rfl; rfl; rfl; rfl; clear hS; intro b w1 hS)
      | (apply RO.op; apply OP.makeMap hS; rfl; clear hS; intro b w1 hS)
      | refine RO.yes rfl rfl ?_
      | refine RO.no rfl rfl rfl rfl ?_
      | refine RO.noUndef rfl rfl rfl ?_
      | refine RO.noNone rfl rfl rfl ?_
      | refine Run.cond_true rfl ?_
      | refine Run.cond_false rfl ?_
      | refine Run.skip ?_
      | refine Run.block ?_
      | refine Run.inBlock ?_
      | refine Run.exit rfl ?_
    refine Run.ret Try.func8 rfl (.tmp rfl .nil) ?_
    exact ⟨rfl, hS.picks (by focus ((repeat (first | apply Picks.all | apply Picks.nil | (refine Picks.cons (by repeat (first | apply Take.head | apply Take.tail)) ?_) | apply Picks.drop)); done))⟩
end
end Go.Proofs.Ytcigkkedffggiaa
