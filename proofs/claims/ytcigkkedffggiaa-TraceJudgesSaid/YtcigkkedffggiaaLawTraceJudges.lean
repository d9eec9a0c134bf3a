/-
  Which events are forged, or leaked, and where a part was sent, is the document's, of any events and all that is known: undertonelaw18.TraceJudges is true.
-/
import Derived.Test.YtcigkkedffggiaaTrace5
namespace Go.Proofs.Ytcigkkedffggiaa
set_option maxRecDepth 8000
set_option linter.unusedSimpArgs false
set_option linter.unusedVariables false
open Go Go.RowKit

section
variable {we w : World} {ρ : List (Nat × Obj)} {σ F : List HP} {p lim : Nat} {L : List Nd}

set_option maxHeartbeats 8000000 in
theorem traceJudges_law {l : List Nd} {v : Value} {refs : List Int} {u : Value} {ev : List Ev} {z : Value} {i : Int} (hl : Sl ρ ndL 5 v l) (hq : ∀ a ∈ l, 0 ≤ a.n ∧ a.n ≤ 18446744073709551615) (hr : Sl ρ intL 1 u refs) (hq2 : ∀ a ∈ refs, True) (he : Sl ρ evL 4 z ev) (hq3 : ∀ a ∈ ev, True) (hi0 : (Lit.int .i64 i).wf = true) (hS : St we ρ σ w) :
    Cl Try.prog 6 [v, u, z, .int .i64 i] w fun v w' => v = .bool true ∧ St we ρ σ w' := by
  obtain ⟨sp1, cap1, rfl, hle1, hcm1, -⟩ := hl.val
  obtain ⟨sp2, cap2, rfl, hle2, hcm2, -⟩ := hr.val
  obtain ⟨sp3, cap3, rfl, hle3, hcm3, -⟩ := he.val
  clear hi0
  refine Run.calls4 (n := 82) Try.func6 rfl rfl rfl ?_
  by_cases h1 : l.length ≤ 30
  rotate_left
  · repeat' first
      | (apply RO.op; apply OP.callF; rfl; rfl; rfl; show Cl _ 10 _ _ _; exact awake_calls hS; clear hS; rintro v w1 ⟨rfl, hS⟩)
      | (apply OP.callF; rfl; rfl; rfl; show Cl _ 10 _ _ _; exact awake_calls hS; clear hS; rintro v w1 ⟨rfl, hS⟩; refine ⟨(by first | exact hS | exact hS.tail | exact hS.sublist (by repeat (first | exact List.Sublist.refl _ | refine .cons_cons _ ?_ | refine .cons _ ?_))), ?_⟩)
      | refine Run.seq ?_
      | refine Run.region ?_
      | (refine RO.split ?_ ?_ <;> intro hc <;> try (first | (exfalso; omega) | exact absurd rfl hc | exact Bool.noConfusion hc))
      | refine RO.nil ?_
      | refine RO.still (by exact Still.any) hS rfl ?_
      | (apply RO.op; apply OP.box hS; rfl; rfl; rfl; clear hS; intro b w1 hS)
      | (apply RO.op; apply OP.alloc hS; rfl; rfl; rfl; clear hS; intro b w1 hS)
      | (apply RO.op; apply OP.store hS; rfl; rfl; rfl; rfl; rfl; (focus ((repeat (first | apply Has.head | apply Take.head | apply Put.head | apply Has.tail | apply Take.tail | apply Put.tail)); done)); rfl; rfl; clear hS; intro w1 hS)
      | (apply RO.op; apply OP.buildSlice hS; rfl; rfl; (exact eqAuto); rfl; rfl; rfl; rfl; rfl; clear hS; intro b w1 hS)
      | (apply RO.op; apply OP.makeMap hS; rfl; clear hS; intro b w1 hS)
      | refine RO.yes rfl rfl ?_
      | refine RO.no rfl rfl rfl rfl ?_
      | refine RO.noUndef rfl rfl rfl ?_
      | refine RO.noNone rfl rfl rfl ?_
      | refine Run.cond_true rfl ?_
      | refine Run.cond_false rfl ?_
      | refine Run.skip ?_
      | refine Run.block ?_
      | refine Run.inBlock ?_
      | refine Run.exit rfl ?_
    all_goals
      refine Run.ret Try.func6 rfl (.tmp rfl .nil) ?_
      exact ⟨rfl, hS.picks (by focus ((repeat (first | apply Picks.all | apply Picks.nil | (refine Picks.cons (by repeat (first | apply Take.head | apply Take.tail)) ?_) | apply Picks.drop)); done))⟩
  by_cases h2 : refs.length ≤ 30
  rotate_left
  · repeat' first
      | (apply RO.op; apply OP.callF; rfl; rfl; rfl; show Cl _ 10 _ _ _; exact awake_calls hS; clear hS; rintro v w1 ⟨rfl, hS⟩)
      | (apply OP.callF; rfl; rfl; rfl; show Cl _ 10 _ _ _; exact awake_calls hS; clear hS; rintro v w1 ⟨rfl, hS⟩; refine ⟨(by first | exact hS | exact hS.tail | exact hS.sublist (by repeat (first | exact List.Sublist.refl _ | refine .cons_cons _ ?_ | refine .cons _ ?_))), ?_⟩)
      | refine Run.seq ?_
      | refine Run.region ?_
      | (refine RO.split ?_ ?_ <;> intro hc <;> try (first | (exfalso; omega) | exact absurd rfl hc | exact Bool.noConfusion hc))
      | refine RO.nil ?_
      | refine RO.still (by exact Still.any) hS rfl ?_
      | (apply RO.op; apply OP.box hS; rfl; rfl; rfl; clear hS; intro b w1 hS)
      | (apply RO.op; apply OP.alloc hS; rfl; rfl; rfl; clear hS; intro b w1 hS)
      | (apply RO.op; apply OP.store hS; rfl; rfl; rfl; rfl; rfl; (focus ((repeat (first | apply Has.head | apply Take.head | apply Put.head | apply Has.tail | apply Take.tail | apply Put.tail)); done)); rfl; rfl; clear hS; intro w1 hS)
      | (apply RO.op; apply OP.buildSlice hS; rfl; rfl; (exact eqAuto); rfl; rfl; rfl; rfl; rfl; clear hS; intro b w1 hS)
      | (apply RO.op; apply OP.makeMap hS; rfl; clear hS; intro b w1 hS)
      | refine RO.yes rfl rfl ?_
      | refine RO.no rfl rfl rfl rfl ?_
      | refine RO.noUndef rfl rfl rfl ?_
      | refine RO.noNone rfl rfl rfl ?_
      | refine Run.cond_true rfl ?_
      | refine Run.cond_false rfl ?_
      | refine Run.skip ?_
      | refine Run.block ?_
      | refine Run.inBlock ?_
      | refine Run.exit rfl ?_
    all_goals
      refine Run.ret Try.func6 rfl (.tmp rfl .nil) ?_
      exact ⟨rfl, hS.picks (by focus ((repeat (first | apply Picks.all | apply Picks.nil | (refine Picks.cons (by repeat (first | apply Take.head | apply Take.tail)) ?_) | apply Picks.drop)); done))⟩
  by_cases h3 : ev.length ≤ 30
  rotate_left
  · repeat' first
      | (apply RO.op; apply OP.callF; rfl; rfl; rfl; show Cl _ 10 _ _ _; exact awake_calls hS; clear hS; rintro v w1 ⟨rfl, hS⟩)
      | (apply OP.callF; rfl; rfl; rfl; show Cl _ 10 _ _ _; exact awake_calls hS; clear hS; rintro v w1 ⟨rfl, hS⟩; refine ⟨(by first | exact hS | exact hS.tail | exact hS.sublist (by repeat (first | exact List.Sublist.refl _ | refine .cons_cons _ ?_ | refine .cons _ ?_))), ?_⟩)
      | refine Run.seq ?_
      | refine Run.region ?_
      | (refine RO.split ?_ ?_ <;> intro hc <;> try (first | (exfalso; omega) | exact absurd rfl hc | exact Bool.noConfusion hc))
      | refine RO.nil ?_
      | refine RO.still (by exact Still.any) hS rfl ?_
      | (apply RO.op; apply OP.box hS; rfl; rfl; rfl; clear hS; intro b w1 hS)
      | (apply RO.op; apply OP.alloc hS; rfl; rfl; rfl; clear hS; intro b w1 hS)
      | (apply RO.op; apply OP.store hS; rfl; rfl; rfl; rfl; rfl; (focus ((repeat (first | apply Has.head | apply Take.head | apply Put.head | apply Has.tail | apply Take.tail | apply Put.tail)); done)); rfl; rfl; clear hS; intro w1 hS)
      | (apply RO.op; apply OP.buildSlice hS; rfl; rfl; (exact eqAuto); rfl; rfl; rfl; rfl; rfl; clear hS; intro b w1 hS)
      | (apply RO.op; apply OP.makeMap hS; rfl; clear hS; intro b w1 hS)
      | refine RO.yes rfl rfl ?_
      | refine RO.no rfl rfl rfl rfl ?_
      | refine RO.noUndef rfl rfl rfl ?_
      | refine RO.noNone rfl rfl rfl ?_
      | refine Run.cond_true rfl ?_
      | refine Run.cond_false rfl ?_
      | refine Run.skip ?_
      | refine Run.block ?_
      | refine Run.inBlock ?_
      | refine Run.exit rfl ?_
    all_goals
      refine Run.ret Try.func6 rfl (.tmp rfl .nil) ?_
      exact ⟨rfl, hS.picks (by focus ((repeat (first | apply Picks.all | apply Picks.nil | (refine Picks.cons (by repeat (first | apply Take.head | apply Take.tail)) ?_) | apply Picks.drop)); done))⟩
  have h40 : l.length ≤ 40 := by omega
  have g := builtUp_good (limit := 100) l
  have hrt := builtUp_rt (limit := 100) l
  have hh := learnAll_has g (K := fun _ => false) (by simp) refs
  have hclo := learnAll_closed (L := builtUp (room 100) l) refs
  have hflen : (refs.filter (has (builtUp (room 100) l))).length ≤ 30 := by
    have := List.length_filter_le (has (builtUp (room 100) l)) refs
    omega
  generalize hL : builtUp (room 100) l = L at g hrt hh hclo hflen
  generalize hK : learnAll L refs (fun _ => false) = K at hh hclo
  have hlim := g.lim
  have hlen := g.len
  repeat' first
    | (apply RO.op; apply OP.callF; rfl; rfl; rfl; show Cl _ 22 _ _ _; exact trlearned_calls h40 h2 hl hr hL hK hS; clear hS; rintro v w1 ⟨kb, p, r, c, spare, gk, ck, sp, gc, rfl, hS⟩)
    | (apply OP.callF; rfl; rfl; rfl; show Cl _ 22 _ _ _; exact trlearned_calls h40 h2 hl hr hL hK hS; clear hS; rintro v w1 ⟨kb, p, r, c, spare, gk, ck, sp, gc, rfl, hS⟩; refine ⟨(by first | exact hS | exact hS.tail | exact hS.sublist (by repeat (first | exact List.Sublist.refl _ | refine .cons_cons _ ?_ | refine .cons _ ?_))), ?_⟩)
    | (apply RO.op; apply OP.callF; rfl; rfl; rfl; show Cl _ 14 _ _ _; exact of_calls he h3 hS; clear hS; rintro v w1 ⟨va, vb, rfl, hS⟩; obtain ⟨ρ1, o1, s1, hT⟩ := vec_freeze tevL_length hS; obtain ⟨ρ2, o2, s2, hT2⟩ := vec_freeze evL_length hT; clear hS hT; have hS := hT2; clear hT2; have s1' := s1.mono o2.sub; clear s1)
    | (apply OP.callF; rfl; rfl; rfl; show Cl _ 14 _ _ _; exact of_calls he h3 hS; clear hS; rintro v w1 ⟨va, vb, rfl, hS⟩; obtain ⟨ρ1, o1, s1, hT⟩ := vec_freeze tevL_length hS; obtain ⟨ρ2, o2, s2, hT2⟩ := vec_freeze evL_length hT; clear hS hT; have hS := hT2; clear hT2; have s1' := s1.mono o2.sub; clear s1; refine ⟨(by first | exact hS | exact hS.tail | exact hS.sublist (by repeat (first | exact List.Sublist.refl _ | refine .cons_cons _ ?_ | refine .cons _ ?_))), ?_⟩)
    | refine Run.seq ?_
    | refine Run.region ?_
    | (refine RO.split ?_ ?_ <;> intro hc <;> try (first | (exfalso; omega) | exact absurd rfl hc | exact Bool.noConfusion hc))
    | refine RO.nil ?_
    | refine RO.still (by exact Still.any) hS rfl ?_
    | (apply RO.op; apply OP.box hS; rfl; rfl; rfl; clear hS; intro b w1 hS)
    | (apply RO.op; apply OP.alloc hS; rfl; rfl; rfl; clear hS; intro b w1 hS)
    | (apply RO.op; apply OP.store hS; rfl; rfl; rfl; rfl; rfl; (focus ((repeat (first | apply Has.head | apply Take.head | apply Put.head | apply Has.tail | apply Take.tail | apply Put.tail)); done)); rfl; rfl; clear hS; intro w1 hS)
    | (apply RO.op; apply OP.buildSlice hS; rfl; rfl; (exact eqAuto); rfl; rfl; rfl; rfl; rfl; clear hS; intro b w1 hS)
    | (apply RO.op; apply OP.makeMap hS; rfl; clear hS; intro b w1 hS)
    | refine RO.yes rfl rfl ?_
    | refine RO.no rfl rfl rfl rfl ?_
    | refine RO.noUndef rfl rfl rfl ?_
    | refine RO.noNone rfl rfl rfl ?_
    | refine Run.cond_true rfl ?_
    | refine Run.cond_false rfl ?_
    | refine Run.skip ?_
    | refine Run.block ?_
    | refine Run.inBlock ?_
    | refine Run.exit rfl ?_
  have hc0 : boolsL L (can L K) = boolsL L (can L K) ++ [] := by rw [List.append_nil]
  rw [hc0] at hS
  replace hS : St we ρ2 (KN kb p (refs.filter (has L)) K :: Arena p (room 100) L :: Row gc (boolsL L (can L K) ++ []) 4 :: Row b [.int .i64 (room 100), .slice (some ⟨r, 0, none⟩) L.length c] 48 :: σ) _ := hS.picks (by focus ((repeat (first | apply Picks.all | apply Picks.nil | (refine Picks.cons (by repeat (first | apply Take.head | apply Take.tail)) ?_) | apply Picks.drop)); done))
  have hback : ∀ {σ : List HP} {w : World}, St we ρ2 σ w → St we ρ σ w := fun h => o1.back (o2.back h)
  by_cases hin : 0 ≤ i ∧ i < ev.length
  · obtain ⟨hin1, hin2⟩ := hin
    obtain ⟨m, rfl⟩ : ∃ m : Nat, i = m := ⟨i.toNat, by omega⟩
    have hm : m < ev.length := by omega
    obtain ⟨x, hx⟩ : ∃ x, ev[m] = x := ⟨_, rfl⟩
    obtain ⟨fo, hfo⟩ : ∃ b, forgedV ev x (can L K x.key) = b := ⟨_, rfl⟩
    obtain ⟨le, hle⟩ : ∃ b, leakedV x (can L K x.key) (can L K x.payload) = b := ⟨_, rfl⟩
    have c1 : ∀ {w : World} {G : List HP}, St we ρ2 (KN kb p (refs.filter (has L)) K :: Arena p (room 100) L :: G) w → _ := fun {w G} hS => forged_in (w := w) (F := G) hh s1' h3 hm hx hS
    have c2 : ∀ {w : World} {G : List HP}, St we ρ2 (KN kb p (refs.filter (has L)) K :: Arena p (room 100) L :: G) w → _ := fun {w G} hS => leaked_in (w := w) (F := G) hh s1' h3 hm hx hS
    have c3 : ∀ {w : World} {G : List HP}, St we ρ2 (Row gc (boolsL L (can L K) ++ []) 4 :: G) w → _ := fun {w G} hS => refForged_in (w := w) (F := G) (r := r) (lim' := room 100) (cap := c) (cc := L.length) g s2 h3 hm hx hS
    have c4 : ∀ {w : World} {G : List HP}, St we ρ2 (Row gc (boolsL L (can L K) ++ []) 4 :: G) w → _ := fun {w G} hS => refLeaked_in (w := w) (F := G) (r := r) (lim' := room 100) (cap := c) (cc := L.length) g s2 h3 hm hx hS
    simp only [hfo, hle] at c1 c2 c3 c4
    cases fo <;> cases le
    all_goals
      repeat' first
        | (refine Run.regionQ_of hS (by rfl) (by kernel_rfl) ?_; clear hS)
        | (apply RQ.callF; rfl; rfl; rfl; (show ∀ w, _ → Cl _ 23 _ _ _; exact fun w hS => (c1 (hS.take2 (by focus ((repeat (first | apply Has.head | apply Take.head | apply Put.head | apply Has.tail | apply Take.tail | apply Put.tail)); done)) (by focus ((repeat (first | apply Has.head | apply Take.head | apply Put.head | apply Has.tail | apply Take.tail | apply Put.tail)); done)))).at2 (by focus ((repeat (first | apply Has.head | apply Take.head | apply Put.head | apply Has.tail | apply Take.tail | apply Put.tail)); done)) (by focus ((repeat (first | apply Has.head | apply Take.head | apply Put.head | apply Has.tail | apply Take.tail | apply Put.tail)); done))))
        | (apply RQ.callF; rfl; rfl; rfl; (show ∀ w, _ → Cl _ 25 _ _ _; exact fun w hS => (c2 (hS.take2 (by focus ((repeat (first | apply Has.head | apply Take.head | apply Put.head | apply Has.tail | apply Take.tail | apply Put.tail)); done)) (by focus ((repeat (first | apply Has.head | apply Take.head | apply Put.head | apply Has.tail | apply Take.tail | apply Put.tail)); done)))).at2 (by focus ((repeat (first | apply Has.head | apply Take.head | apply Put.head | apply Has.tail | apply Take.tail | apply Put.tail)); done)) (by focus ((repeat (first | apply Has.head | apply Take.head | apply Put.head | apply Has.tail | apply Take.tail | apply Put.tail)); done))))
        | (apply RQ.callF; rfl; rfl; rfl; (show ∀ w, _ → Cl _ 24 _ _ _; exact fun w hS => (c3 (hS.take (by focus ((repeat (first | apply Has.head | apply Take.head | apply Put.head | apply Has.tail | apply Take.tail | apply Put.tail)); done)))).at (by focus ((repeat (first | apply Has.head | apply Take.head | apply Put.head | apply Has.tail | apply Take.tail | apply Put.tail)); done))))
        | (apply RQ.callF; rfl; rfl; rfl; (show ∀ w, _ → Cl _ 26 _ _ _; exact fun w hS => (c4 (hS.take (by focus ((repeat (first | apply Has.head | apply Take.head | apply Put.head | apply Has.tail | apply Take.tail | apply Put.tail)); done)))).at (by focus ((repeat (first | apply Has.head | apply Take.head | apply Put.head | apply Has.tail | apply Take.tail | apply Put.tail)); done))))
        | (refine RQ.split ?_ ?_ <;> intro hc <;> try (first | (exfalso; omega) | exact absurd rfl hc | exact Bool.noConfusion hc))
        | (refine RQ.nil ?_; (try clear hS); intro w1 hS)
        | refine RQ.still (by exact Still.any) rfl ?_
        | refine RQ.yes rfl rfl ?_
        | refine RQ.no rfl rfl rfl rfl ?_
        | refine RQ.noUndef rfl rfl rfl ?_
        | (apply RO.op; apply OP.callF; rfl; rfl; rfl; show Cl _ 15 _ _ _; exact honest_calls s1' h3 hS; clear hS; intro va w1 hS)
        | (apply OP.callF; rfl; rfl; rfl; show Cl _ 15 _ _ _; exact honest_calls s1' h3 hS; clear hS; intro va w1 hS; refine ⟨(by first | exact hS | exact hS.tail | exact hS.sublist (by repeat (first | exact List.Sublist.refl _ | refine .cons_cons _ ?_ | refine .cons _ ?_))), ?_⟩)
        | (apply RO.op; apply OP.callF; rfl; rfl; rfl; show Cl _ 27 _ _ _; exact refHonest s2 h3 hS; clear hS; intro vb w1 hS)
        | (apply OP.callF; rfl; rfl; rfl; show Cl _ 27 _ _ _; exact refHonest s2 h3 hS; clear hS; intro vb w1 hS; refine ⟨(by first | exact hS | exact hS.tail | exact hS.sublist (by repeat (first | exact List.Sublist.refl _ | refine .cons_cons _ ?_ | refine .cons _ ?_))), ?_⟩)
        | (apply RO.op; apply OP.callF; rfl; rfl; rfl; show Cl _ 12 _ _ _; exact same_vecs (l := honest ev m) (l' := honest ev m) (hS.take2 (by focus ((repeat (first | apply Has.head | apply Take.head | apply Put.head | apply Has.tail | apply Take.tail | apply Put.tail)); done)) (by focus ((repeat (first | apply Has.head | apply Take.head | apply Put.head | apply Has.tail | apply Take.tail | apply Put.tail)); done))); clear hS; rintro v w1 ⟨rfl, hS⟩; rw [decide_eq_true (rfl : honest ev m = honest ev m)])
        | (apply OP.callF; rfl; rfl; rfl; show Cl _ 12 _ _ _; exact same_vecs (l := honest ev m) (l' := honest ev m) (hS.take2 (by focus ((repeat (first | apply Has.head | apply Take.head | apply Put.head | apply Has.tail | apply Take.tail | apply Put.tail)); done)) (by focus ((repeat (first | apply Has.head | apply Take.head | apply Put.head | apply Has.tail | apply Take.tail | apply Put.tail)); done))); clear hS; rintro v w1 ⟨rfl, hS⟩; rw [decide_eq_true (rfl : honest ev m = honest ev m)]; refine ⟨(by first | exact hS | exact hS.tail | exact hS.sublist (by repeat (first | exact List.Sublist.refl _ | refine .cons_cons _ ?_ | refine .cons _ ?_))), ?_⟩)
        | (apply RO.op; apply OP.callF; rfl; rfl; rfl; show Cl _ 10 _ _ _; exact awake_calls hS; clear hS; rintro v w1 ⟨rfl, hS⟩)
        | (apply OP.callF; rfl; rfl; rfl; show Cl _ 10 _ _ _; exact awake_calls hS; clear hS; rintro v w1 ⟨rfl, hS⟩; refine ⟨(by first | exact hS | exact hS.tail | exact hS.sublist (by repeat (first | exact List.Sublist.refl _ | refine .cons_cons _ ?_ | refine .cons _ ?_))), ?_⟩)
        | refine Run.seq ?_
        | refine Run.region ?_
        | (refine RO.split ?_ ?_ <;> intro hc <;> try (first | (exfalso; omega) | exact absurd rfl hc | exact Bool.noConfusion hc))
        | refine RO.nil ?_
        | refine RO.still (by exact Still.any) hS rfl ?_
        | (apply RO.op; apply OP.box hS; rfl; rfl; rfl; clear hS; intro b w1 hS)
        | (apply RO.op; apply OP.alloc hS; rfl; rfl; rfl; clear hS; intro b w1 hS)
        | (apply RO.op; apply OP.store hS; rfl; rfl; rfl; rfl; rfl; (focus ((repeat (first | apply Has.head | apply Take.head | apply Put.head | apply Has.tail | apply Take.tail | apply Put.tail)); done)); rfl; rfl; clear hS; intro w1 hS)
        | (apply RO.op; apply OP.buildSlice hS; rfl; rfl; (exact eqAuto); rfl; rfl; rfl; rfl; rfl; clear hS; intro b w1 hS)
        | (apply RO.op; apply OP.makeMap hS; rfl; clear hS; intro b w1 hS)
        | refine RO.yes rfl rfl ?_
        | refine RO.no rfl rfl rfl rfl ?_
        | refine RO.noUndef rfl rfl rfl ?_
        | refine RO.noNone rfl rfl rfl ?_
        | refine Run.cond_true rfl ?_
        | refine Run.cond_false rfl ?_
        | refine Run.skip ?_
        | refine Run.block ?_
        | refine Run.inBlock ?_
        | refine Run.exit rfl ?_
      refine Run.ret Try.func6 rfl (.tmp rfl .nil) ?_
      exact ⟨rfl, hback (hS.picks (by focus ((repeat (first | apply Picks.all | apply Picks.nil | (refine Picks.cons (by repeat (first | apply Take.head | apply Take.tail)) ?_) | apply Picks.drop)); done)))⟩
  · repeat' first
      | (refine Run.regionQ_of hS (by rfl) (by kernel_rfl) ?_; clear hS)
      | (apply RQ.callF; rfl; rfl; rfl; (show ∀ w, _ → Cl _ 23 _ _ _; exact fun w hS => forged_out s1' h3 hin hS))
      | (apply RQ.callF; rfl; rfl; rfl; (show ∀ w, _ → Cl _ 25 _ _ _; exact fun w hS => leaked_out s1' h3 hin hS))
      | (apply RQ.callF; rfl; rfl; rfl; (show ∀ w, _ → Cl _ 24 _ _ _; exact fun w hS => refForged_out s2 h3 hin hS))
      | (apply RQ.callF; rfl; rfl; rfl; (show ∀ w, _ → Cl _ 26 _ _ _; exact fun w hS => refLeaked_out s2 h3 hin hS))
      | (refine RQ.split ?_ ?_ <;> intro hc <;> try (first | (exfalso; omega) | exact absurd rfl hc | exact Bool.noConfusion hc))
      | (refine RQ.nil ?_; (try clear hS); intro w1 hS)
      | refine RQ.still (by exact Still.any) rfl ?_
      | refine RQ.yes rfl rfl ?_
      | refine RQ.no rfl rfl rfl rfl ?_
      | refine RQ.noUndef rfl rfl rfl ?_
      | (apply RO.op; apply OP.callF; rfl; rfl; rfl; show Cl _ 15 _ _ _; exact honest_calls s1' h3 hS; clear hS; intro va w1 hS)
      | (apply OP.callF; rfl; rfl; rfl; show Cl _ 15 _ _ _; exact honest_calls s1' h3 hS; clear hS; intro va w1 hS; refine ⟨(by first | exact hS | exact hS.tail | exact hS.sublist (by repeat (first | exact List.Sublist.refl _ | refine .cons_cons _ ?_ | refine .cons _ ?_))), ?_⟩)
      | (apply RO.op; apply OP.callF; rfl; rfl; rfl; show Cl _ 27 _ _ _; exact refHonest s2 h3 hS; clear hS; intro vb w1 hS)
      | (apply OP.callF; rfl; rfl; rfl; show Cl _ 27 _ _ _; exact refHonest s2 h3 hS; clear hS; intro vb w1 hS; refine ⟨(by first | exact hS | exact hS.tail | exact hS.sublist (by repeat (first | exact List.Sublist.refl _ | refine .cons_cons _ ?_ | refine .cons _ ?_))), ?_⟩)
      | (apply RO.op; apply OP.callF; rfl; rfl; rfl; show Cl _ 12 _ _ _; exact same_vecs (l := honest ev i) (l' := honest ev i) (hS.take2 (by focus ((repeat (first | apply Has.head | apply Take.head | apply Put.head | apply Has.tail | apply Take.tail | apply Put.tail)); done)) (by focus ((repeat (first | apply Has.head | apply Take.head | apply Put.head | apply Has.tail | apply Take.tail | apply Put.tail)); done))); clear hS; rintro v w1 ⟨rfl, hS⟩; rw [decide_eq_true (rfl : honest ev i = honest ev i)])
      | (apply OP.callF; rfl; rfl; rfl; show Cl _ 12 _ _ _; exact same_vecs (l := honest ev i) (l' := honest ev i) (hS.take2 (by focus ((repeat (first | apply Has.head | apply Take.head | apply Put.head | apply Has.tail | apply Take.tail | apply Put.tail)); done)) (by focus ((repeat (first | apply Has.head | apply Take.head | apply Put.head | apply Has.tail | apply Take.tail | apply Put.tail)); done))); clear hS; rintro v w1 ⟨rfl, hS⟩; rw [decide_eq_true (rfl : honest ev i = honest ev i)]; refine ⟨(by first | exact hS | exact hS.tail | exact hS.sublist (by repeat (first | exact List.Sublist.refl _ | refine .cons_cons _ ?_ | refine .cons _ ?_))), ?_⟩)
      | (apply RO.op; apply OP.callF; rfl; rfl; rfl; show Cl _ 10 _ _ _; exact awake_calls hS; clear hS; rintro v w1 ⟨rfl, hS⟩)
      | (apply OP.callF; rfl; rfl; rfl; show Cl _ 10 _ _ _; exact awake_calls hS; clear hS; rintro v w1 ⟨rfl, hS⟩; refine ⟨(by first | exact hS | exact hS.tail | exact hS.sublist (by repeat (first | exact List.Sublist.refl _ | refine .cons_cons _ ?_ | refine .cons _ ?_))), ?_⟩)
      | refine Run.seq ?_
      | refine Run.region ?_
      | (refine RO.split ?_ ?_ <;> intro hc <;> try (first | (exfalso; omega) | exact absurd rfl hc | exact Bool.noConfusion hc))
      | refine RO.nil ?_
      | refine RO.still (by exact Still.any) hS rfl ?_
      | (apply RO.op; apply OP.box hS; rfl; rfl; rfl; clear hS; intro b w1 hS)
      | (apply RO.op; apply OP.alloc hS; rfl; rfl; rfl; clear hS; intro b w1 hS)
      | (apply RO.op; apply OP.store hS; rfl; rfl; rfl; rfl; rfl; (focus ((repeat (first | apply Has.head | apply Take.head | apply Put.head | apply Has.tail | apply Take.tail | apply Put.tail)); done)); rfl; rfl; clear hS; intro w1 hS)
      | (apply RO.op; apply OP.buildSlice hS; rfl; rfl; (exact eqAuto); rfl; rfl; rfl; rfl; rfl; clear hS; intro b w1 hS)
      | (apply RO.op; apply OP.makeMap hS; rfl; clear hS; intro b w1 hS)
      | refine RO.yes rfl rfl ?_
      | refine RO.no rfl rfl rfl rfl ?_
      | refine RO.noUndef rfl rfl rfl ?_
      | refine RO.noNone rfl rfl rfl ?_
      | refine Run.cond_true rfl ?_
      | refine Run.cond_false rfl ?_
      | refine Run.skip ?_
      | refine Run.block ?_
      | refine Run.inBlock ?_
      | refine Run.exit rfl ?_
    refine Run.ret Try.func6 rfl (.tmp rfl .nil) ?_
    exact ⟨rfl, hback (hS.picks (by focus ((repeat (first | apply Picks.all | apply Picks.nil | (refine Picks.cons (by repeat (first | apply Take.head | apply Take.tail)) ?_) | apply Picks.drop)); done)))⟩
end
end Go.Proofs.Ytcigkkedffggiaa
