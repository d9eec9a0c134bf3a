/-
  What a recipe makes is the answer of the document: undertonelaw04.RecipeRuns is true.
-/
import Derived.Test.YthejfodjielahaaLawRecipeCans
import Derived.Test.YthejfodjielahaaRunsB
namespace Go.Proofs.Ythejfodjielahaa
set_option maxRecDepth 8000
set_option linter.unusedSimpArgs false
set_option linter.unusedVariables false
open Go Go.RowKit

section
variable {we w : World} {ρ : List (Nat × Obj)} {σ F : List HP} {p lim : Nat} {L : List Nd}

set_option maxHeartbeats 8000000 in
theorem recipeRuns_law {limit : Int} {l : List Nd} {v : Value} {refs : List Int} {u : Value} {st : List Stp} {z : Value} (hlim0 : (Lit.int .i64 limit).wf = true) (hl : Sl ρ ndL 5 v l) (hq : ∀ a ∈ l, 0 ≤ a.n ∧ a.n ≤ 18446744073709551615) (hr : Sl ρ intL 1 u refs) (hq2 : ∀ a ∈ refs, True) (hs : Sl ρ stpL 5 z st) (hq3 : ∀ a ∈ st, 0 ≤ a.n ∧ a.n ≤ 18446744073709551615) (hS : St we ρ σ w) :
    Cl Try.prog 7 [.int .i64 limit, v, u, z] w fun v w' => v = .bool true ∧ St we ρ σ w' := by
  obtain ⟨sp1, cap1, rfl, hle1, hcm1, -⟩ := hl.val
  obtain ⟨sp2, cap2, rfl, hle2, hcm2, -⟩ := hr.val
  obtain ⟨sp3, cap3, rfl, hle3, hcm3, -⟩ := hs.val
  refine Run.calls4 (n := 100) Try.func7 rfl rfl rfl ?_
  by_cases h1 : l.length ≤ 30
  rotate_left
  · repeat' first
      | (apply RO.op; apply OP.callF; rfl; rfl; rfl; show Cl _ 9 _ _ _; exact rawake_calls hS; clear hS; rintro v w1 ⟨rfl, hS⟩)
      | (apply OP.callF; rfl; rfl; rfl; show Cl _ 9 _ _ _; exact rawake_calls hS; clear hS; rintro v w1 ⟨rfl, hS⟩; refine ⟨(by first | exact hS | exact hS.tail | exact hS.sublist (by repeat (first | exact List.Sublist.refl _ | refine .cons_cons _ ?_ | refine .cons _ ?_))), ?_⟩)
      | refine Run.seq ?_
      | refine Run.region ?_
      | (refine RO.split ?_ ?_ <;> intro hc <;> try (first | (exfalso; omega) | exact absurd rfl hc | exact Bool.noConfusion hc))
      | refine RO.nil ?_
      | refine RO.still (by exact Still.any) hS rfl ?_
      | (apply RO.op; apply OP.box hS; rfl; rfl; rfl; clear hS; intro b w1 hS)
      | (apply RO.op; apply OP.alloc hS; rfl; rfl; rfl; clear hS; intro b w1 hS)
      | (apply RO.op; apply OP.store hS; rfl; rfl; rfl; rfl; rfl; (focus ((repeat (first | apply Has.head | apply Take.head | apply Put.head | apply Has.tail | apply Take.tail | apply Put.tail)); done)); rfl; rfl; clear hS; intro w1 hS)
      | (apply RO.op; apply OP.buildSlice hS; rfl; rfl; (exact eqAuto); rfl; rfl; rfl; rfl; rfl; clear hS; intro b w1 hS)
      | (apply RO.op; apply OP.makeMap hS; rfl; clear hS; intro b w1 hS)
      | refine RO.yes rfl rfl ?_
      | refine RO.no rfl rfl rfl rfl ?_
      | refine RO.noUndef rfl rfl rfl ?_
      | refine RO.noNone rfl rfl rfl ?_
      | refine Run.cond_true rfl ?_
      | refine Run.cond_false rfl ?_
      | refine Run.skip ?_
      | refine Run.block ?_
      | refine Run.inBlock ?_
      | refine Run.exit rfl ?_
    all_goals
      refine Run.ret Try.func7 rfl (.tmp rfl .nil) ?_
      exact ⟨rfl, hS.picks (by focus ((repeat (first | apply Picks.all | apply Picks.nil | (refine Picks.cons (by repeat (first | apply Take.head | apply Take.tail)) ?_) | apply Picks.drop)); done))⟩
  by_cases h3 : st.length ≤ 30
  rotate_left
  · repeat' first
      | (apply RO.op; apply OP.callF; rfl; rfl; rfl; show Cl _ 9 _ _ _; exact rawake_calls hS; clear hS; rintro v w1 ⟨rfl, hS⟩)
      | (apply OP.callF; rfl; rfl; rfl; show Cl _ 9 _ _ _; exact rawake_calls hS; clear hS; rintro v w1 ⟨rfl, hS⟩; refine ⟨(by first | exact hS | exact hS.tail | exact hS.sublist (by repeat (first | exact List.Sublist.refl _ | refine .cons_cons _ ?_ | refine .cons _ ?_))), ?_⟩)
      | refine Run.seq ?_
      | refine Run.region ?_
      | (refine RO.split ?_ ?_ <;> intro hc <;> try (first | (exfalso; omega) | exact absurd rfl hc | exact Bool.noConfusion hc))
      | refine RO.nil ?_
      | refine RO.still (by exact Still.any) hS rfl ?_
      | (apply RO.op; apply OP.box hS; rfl; rfl; rfl; clear hS; intro b w1 hS)
      | (apply RO.op; apply OP.alloc hS; rfl; rfl; rfl; clear hS; intro b w1 hS)
      | (apply RO.op; apply OP.store hS; rfl; rfl; rfl; rfl; rfl; (focus ((repeat (first | apply Has.head | apply Take.head | apply Put.head | apply Has.tail | apply Take.tail | apply Put.tail)); done)); rfl; rfl; clear hS; intro w1 hS)
      | (apply RO.op; apply OP.buildSlice hS; rfl; rfl; (exact eqAuto); rfl; rfl; rfl; rfl; rfl; clear hS; intro b w1 hS)
      | (apply RO.op; apply OP.makeMap hS; rfl; clear hS; intro b w1 hS)
      | refine RO.yes rfl rfl ?_
      | refine RO.no rfl rfl rfl rfl ?_
      | refine RO.noUndef rfl rfl rfl ?_
      | refine RO.noNone rfl rfl rfl ?_
      | refine Run.cond_true rfl ?_
      | refine Run.cond_false rfl ?_
      | refine Run.skip ?_
      | refine Run.block ?_
      | refine Run.inBlock ?_
      | refine Run.exit rfl ?_
    all_goals
      refine Run.ret Try.func7 rfl (.tmp rfl .nil) ?_
      exact ⟨rfl, hS.picks (by focus ((repeat (first | apply Picks.all | apply Picks.nil | (refine Picks.cons (by repeat (first | apply Take.head | apply Take.tail)) ?_) | apply Picks.drop)); done))⟩
  by_cases h2 : refs.length ≤ 30
  rotate_left
  · repeat' first
      | (apply RO.op; apply OP.callF; rfl; rfl; rfl; show Cl _ 9 _ _ _; exact rawake_calls hS; clear hS; rintro v w1 ⟨rfl, hS⟩)
      | (apply OP.callF; rfl; rfl; rfl; show Cl _ 9 _ _ _; exact rawake_calls hS; clear hS; rintro v w1 ⟨rfl, hS⟩; refine ⟨(by first | exact hS | exact hS.tail | exact hS.sublist (by repeat (first | exact List.Sublist.refl _ | refine .cons_cons _ ?_ | refine .cons _ ?_))), ?_⟩)
      | refine Run.seq ?_
      | refine Run.region ?_
      | (refine RO.split ?_ ?_ <;> intro hc <;> try (first | (exfalso; omega) | exact absurd rfl hc | exact Bool.noConfusion hc))
      | refine RO.nil ?_
      | refine RO.still (by exact Still.any) hS rfl ?_
      | (apply RO.op; apply OP.box hS; rfl; rfl; rfl; clear hS; intro b w1 hS)
      | (apply RO.op; apply OP.alloc hS; rfl; rfl; rfl; clear hS; intro b w1 hS)
      | (apply RO.op; apply OP.store hS; rfl; rfl; rfl; rfl; rfl; (focus ((repeat (first | apply Has.head | apply Take.head | apply Put.head | apply Has.tail | apply Take.tail | apply Put.tail)); done)); rfl; rfl; clear hS; intro w1 hS)
      | (apply RO.op; apply OP.buildSlice hS; rfl; rfl; (exact eqAuto); rfl; rfl; rfl; rfl; rfl; clear hS; intro b w1 hS)
      | (apply RO.op; apply OP.makeMap hS; rfl; clear hS; intro b w1 hS)
      | refine RO.yes rfl rfl ?_
      | refine RO.no rfl rfl rfl rfl ?_
      | refine RO.noUndef rfl rfl rfl ?_
      | refine RO.noNone rfl rfl rfl ?_
      | refine Run.cond_true rfl ?_
      | refine Run.cond_false rfl ?_
      | refine Run.skip ?_
      | refine Run.block ?_
      | refine Run.inBlock ?_
      | refine Run.exit rfl ?_
    all_goals
      refine Run.ret Try.func7 rfl (.tmp rfl .nil) ?_
      exact ⟨rfl, hS.picks (by focus ((repeat (first | apply Picks.all | apply Picks.nil | (refine Picks.cons (by repeat (first | apply Take.head | apply Take.tail)) ?_) | apply Picks.drop)); done))⟩
  have h40 : l.length ≤ 40 := by omega
  have g := builtUp_good (limit := limit) l
  have hh := learnAll_has g (K := fun _ => false) (by simp) refs
  have hclo := learnAll_closed (L := builtUp (room limit) l) refs
  have hkn := heard_knows (L := builtUp (room limit) l) (refs := refs)
  have hflen : (refs.filter (has (builtUp (room limit) l))).length ≤ 200000 := by
    have := List.length_filter_le (has (builtUp (room limit) l)) refs
    omega
  have hrt := builtUp_rt (limit := limit) l
  generalize hL : builtUp (room limit) l = L at g hh hclo hflen hkn hrt
  generalize hK : learnAll L refs (fun _ => false) = K at hh hclo hkn
  have hlim := g.lim
  have hlen := g.len
  generalize hhd : refs.filter (has L) = heard at hflen hkn
  have hkit : ∀ {w : World} {σ : List HP}, St we ρ σ w → _ := fun {w σ} hS => kitchen_calls (w := w) (σ := σ) h40 h2 hl hr hL hK hS
  simp only [hhd] at hkit
  have hah : AllHas L heard := fun x hx => hh x (hkn x hx)
  obtain ⟨g2, M, hM⟩ := runS_ext (heard := heard) st L [] 0 g hah (fun x hx => by cases hx)
  have hR2 := runS_again (heard := heard) st L [] 0 g hah (fun x hx => by cases hx)
  have hmd := runS_made (lim := room limit) (heard := heard) st L [] 0
  have hrun : ∀ {w : World} {kb p : Nat} {F : List HP}, St we ρ (KN kb p heard K :: Arena p (room limit) L :: F) w → _ := fun {w kb p F} hS =>
    run_calls (w := w) (kb := kb) (p := p) (F := F) g hs hq3 (by omega) hflen hah hS
  obtain ⟨L2, made, at2, e, hR⟩ : ∃ L2 made at2 e, runS (room limit) heard st L [] 0 = (L2, made, at2, e) := ⟨_, _, _, _, rfl⟩
  simp only [hR] at hrun g2 hM hR2 hmd
  have href : ∀ {ρ : List (Nat × Obj)} {w : World} {z hv : Value} {r cap : Nat} {σ : List HP}, St we ρ (Vec 3 1 hv heard.length (heard.flatMap intL) :: Vec 77 5 z st.length (st.flatMap stpL) :: RA (raV (room limit) r L.length cap) (room limit) L :: σ) w → _ := fun {ρ w z hv r cap σ} hS =>
    refRunV (w := w) (ρ := ρ) (z := z) (hv := hv) (r := r) (cap := cap) (σ := σ) g hq3 (by omega) hah hS
  simp only [hR] at href
  have hlen2 : made.length ≤ 1000 := by
    by_cases he : e = 0
    · obtain ⟨M, e1, e2⟩ := hmd.1 he
      rw [e1]; simp; omega
    · rw [(hmd.2 he).1]; simp
  have hL2 := g2.len
  repeat' first
    | (apply RO.op; apply OP.callF; rfl; rfl; rfl; show Cl _ 10 _ _ _; exact hkit hS; clear hS; rintro v w1 ⟨kb, p, r, c, rfl, hS⟩)
    | (apply OP.callF; rfl; rfl; rfl; show Cl _ 10 _ _ _; exact hkit hS; clear hS; rintro v w1 ⟨kb, p, r, c, rfl, hS⟩; refine ⟨(by first | exact hS | exact hS.tail | exact hS.sublist (by repeat (first | exact List.Sublist.refl _ | refine .cons_cons _ ?_ | refine .cons _ ?_))), ?_⟩)
    | (apply RO.op; apply OP.callF; rfl; rfl; rfl; show Cl _ 11 _ _ _; exact hrun (hS.take2 (by focus ((repeat (first | apply Has.head | apply Take.head | apply Put.head | apply Has.tail | apply Take.tail | apply Put.tail)); done)) (by focus ((repeat (first | apply Has.head | apply Take.head | apply Put.head | apply Has.tail | apply Take.tail | apply Put.tail)); done))); clear hS; rintro v w1 ⟨mv, rfl, hS⟩; obtain ⟨ρ1, o1, s1, hT⟩ := vec_freeze intL_length hS; obtain ⟨sp4, cap4, rfl, hle4, hcm4, -⟩ := s1.val; clear hS; have hS := hT; clear hT; have hs1 := hs.mono o1.sub)
    | (apply OP.callF; rfl; rfl; rfl; show Cl _ 11 _ _ _; exact hrun (hS.take2 (by focus ((repeat (first | apply Has.head | apply Take.head | apply Put.head | apply Has.tail | apply Take.tail | apply Put.tail)); done)) (by focus ((repeat (first | apply Has.head | apply Take.head | apply Put.head | apply Has.tail | apply Take.tail | apply Put.tail)); done))); clear hS; rintro v w1 ⟨mv, rfl, hS⟩; obtain ⟨ρ1, o1, s1, hT⟩ := vec_freeze intL_length hS; obtain ⟨sp4, cap4, rfl, hle4, hcm4, -⟩ := s1.val; clear hS; have hS := hT; clear hT; have hs1 := hs.mono o1.sub; refine ⟨(by first | exact hS | exact hS.tail | exact hS.sublist (by repeat (first | exact List.Sublist.refl _ | refine .cons_cons _ ?_ | refine .cons _ ?_))), ?_⟩)
    | refine Run.seq ?_
    | refine Run.region ?_
    | (refine RO.split ?_ ?_ <;> intro hc <;> try (first | (exfalso; omega) | exact absurd rfl hc | exact Bool.noConfusion hc))
    | refine RO.nil ?_
    | refine RO.still (by exact Still.any) hS rfl ?_
    | (apply RO.op; apply OP.box hS; rfl; rfl; rfl; clear hS; intro b w1 hS)
    | (apply RO.op; apply OP.alloc hS; rfl; rfl; rfl; clear hS; intro b w1 hS)
    | (apply RO.op; apply OP.store hS; rfl; rfl; rfl; rfl; rfl; (focus ((repeat (first | apply Has.head | apply Take.head | apply Put.head | apply Has.tail | apply Take.tail | apply Put.tail)); done)); rfl; rfl; clear hS; intro w1 hS)
    | (apply RO.op; apply OP.buildSlice hS; rfl; rfl; (exact eqAuto); rfl; rfl; rfl; rfl; rfl; clear hS; intro b w1 hS)
    | (apply RO.op; apply OP.makeMap hS; rfl; clear hS; intro b w1 hS)
    | refine RO.yes rfl rfl ?_
    | refine RO.no rfl rfl rfl rfl ?_
    | refine RO.noUndef rfl rfl rfl ?_
    | refine RO.noNone rfl rfl rfl ?_
    | refine Run.cond_true rfl ?_
    | refine Run.cond_false rfl ?_
    | refine Run.skip ?_
    | refine Run.block ?_
    | refine Run.inBlock ?_
    | refine Run.exit rfl ?_
  replace hS : St we ρ1 (KN kb p heard K :: Arena p (room limit) L2 :: Row b [.int .i64 (room limit), .slice (some ⟨r, 0, none⟩) L.length c] 29 :: RA (raV (room limit) r L.length c) (room limit) L :: σ) _ := hS.picks (by focus ((repeat (first | apply Picks.all | apply Picks.nil | (refine Picks.cons (by repeat (first | apply Take.head | apply Take.tail)) ?_) | apply Picks.drop)); done))
  refine (Run.regionH_cut (fun x : Nat × Nat × Nat × Value => Vec 3 1 x.2.2.2 made.length (made.flatMap intL) :: Arena p (room limit) L2 :: Row x.2.2.1 [.int .i64 (room limit), .slice (some ⟨x.1, 0, none⟩) L2.length x.2.1] 29 :: RA (raV (room limit) x.1 L2.length x.2.1) (room limit) L2 :: σ)
    (fun x => [(9, .pointer (some ⟨p, 0, none⟩)), (12, .slice sp4 made.length cap4), (13, .int .i64 at2), (14, .int .i64 e), (15, .pointer (some ⟨x.2.2.1, 0, none⟩)), (16, x.2.2.2), (17, .int .i64 at2), (18, .int .i64 e)])
    hS (.cons _ (.cons_cons _ (.cons_cons _ (.cons _ (List.Sublist.refl _))))) (by rfl) (by rfl) (by rfl) ?_ ?_)
  · clear hS
    intro w1 hS
    refine RH.relist (listed' := bm 16 0) (by kernel_rfl) ?_
    all_goals (apply RH.take (i := 0) (listed := (bm 16 0)) (listed' := (bm 16 1)); rfl; kernel_rfl; kernel_rfl; (first | (apply Still.load; rfl; rfl; (exact Rd.any); (first | rfl | exact flat_get0 (by assumption) | exact flat_get1 (by assumption) | exact flat_get2 (by assumption) | exact flat_get3 (by assumption) | exact flat_get4 (by assumption))) | (apply Still.loadAgg; rfl; rfl; (exact eqAuto); (exact Rd.any); (first | exact flat_take (by assumption) | rfl); rfl)); (first | exact hS | exact hS.tail | exact hS.sublist (by repeat (first | exact List.Sublist.refl _ | refine .cons_cons _ ?_ | refine .cons _ ?_))); rfl)
    all_goals (apply RH.take (i := 1) (listed := (bm 16 1)) (listed' := (bm 16 3)); rfl; kernel_rfl; kernel_rfl; (apply Still.move; rfl); (first | exact hS | exact hS.tail | exact hS.sublist (by repeat (first | exact List.Sublist.refl _ | refine .cons_cons _ ?_ | refine .cons _ ?_))); rfl)
    all_goals (apply RH.take (i := 3) (listed := (bm 16 3)) (listed' := (bm 16 11)); rfl; kernel_rfl; kernel_rfl; (apply Still.move; rfl); (first | exact hS | exact hS.tail | exact hS.sublist (by repeat (first | exact List.Sublist.refl _ | refine .cons_cons _ ?_ | refine .cons _ ?_))); rfl)
    all_goals
      apply RH.all2 (i1 := 2) (i2 := 11) (listed := (bm 16 11))
      · kernel_rfl
      · apply RI.op (i := 2) (listed := (bm 16 11)) (listed' := (bm 16 15)); rfl; kernel_rfl
        all_goals try first
        | (apply OP.callF; rfl; rfl; rfl; show Cl _ 13 _ _ _; exact heard_calls hflen (hS.take (by focus ((repeat (first | apply Has.head | apply Take.head | apply Put.head | apply Has.tail | apply Take.tail | apply Put.tail)); done))); clear hS; intro va w1 hS; refine ⟨(by first | exact hS | exact hS.tail | exact hS.sublist (by repeat (first | exact List.Sublist.refl _ | refine .cons_cons _ ?_ | refine .cons _ ?_))), ?_⟩)
        | (apply OP.callF; rfl; rfl; rfl; show Cl _ 17 _ _ _; exact rof_calls hs1 (by omega) hS; clear hS; intro vo w1 hS; refine ⟨(by first | exact hS | exact hS.tail | exact hS.sublist (by repeat (first | exact List.Sublist.refl _ | refine .cons_cons _ ?_ | refine .cons _ ?_))), ?_⟩)
        | (apply OP.callF; rfl; rfl; rfl; show Cl _ 16 _ _ _; exact href (tke3 hS (by focus ((repeat (first | apply Has.head | apply Take.head | apply Put.head | apply Has.tail | apply Take.tail | apply Put.tail)); done)) (by focus ((repeat (first | apply Has.head | apply Take.head | apply Put.head | apply Has.tail | apply Take.tail | apply Put.tail)); done)) (by focus ((repeat (first | apply Has.head | apply Take.head | apply Put.head | apply Has.tail | apply Take.tail | apply Put.tail)); done))); clear hS; rintro v w1 ⟨r2, c2, mw, rfl, hS⟩; refine ⟨(by first | exact hS | exact hS.tail | exact hS.sublist (by repeat (first | exact List.Sublist.refl _ | refine .cons_cons _ ?_ | refine .cons _ ?_))), ?_⟩)
        | (refine OP.still (by exact Still.any) hS rfl ⟨(by first | exact hS | exact hS.tail | exact hS.sublist (by repeat (first | exact List.Sublist.refl _ | refine .cons_cons _ ?_ | refine .cons _ ?_))), ?_⟩)
        all_goals
          apply RH.all2 (i1 := 4) (i2 := 11) (listed := (bm 16 15))
          · kernel_rfl
          · apply RI.op (i := 4) (listed := (bm 16 15)) (listed' := (bm 16 31)); rfl; kernel_rfl
            all_goals try first
            | (apply OP.callF; rfl; rfl; rfl; show Cl _ 13 _ _ _; exact heard_calls hflen (hS.take (by focus ((repeat (first | apply Has.head | apply Take.head | apply Put.head | apply Has.tail | apply Take.tail | apply Put.tail)); done))); clear hS; intro va w1 hS; refine ⟨(by first | exact hS | exact hS.tail | exact hS.sublist (by repeat (first | exact List.Sublist.refl _ | refine .cons_cons _ ?_ | refine .cons _ ?_))), ?_⟩)
            | (apply OP.callF; rfl; rfl; rfl; show Cl _ 17 _ _ _; exact rof_calls hs1 (by omega) hS; clear hS; intro vo w1 hS; refine ⟨(by first | exact hS | exact hS.tail | exact hS.sublist (by repeat (first | exact List.Sublist.refl _ | refine .cons_cons _ ?_ | refine .cons _ ?_))), ?_⟩)
            | (apply OP.callF; rfl; rfl; rfl; show Cl _ 16 _ _ _; exact href (tke3 hS (by focus ((repeat (first | apply Has.head | apply Take.head | apply Put.head | apply Has.tail | apply Take.tail | apply Put.tail)); done)) (by focus ((repeat (first | apply Has.head | apply Take.head | apply Put.head | apply Has.tail | apply Take.tail | apply Put.tail)); done)) (by focus ((repeat (first | apply Has.head | apply Take.head | apply Put.head | apply Has.tail | apply Take.tail | apply Put.tail)); done))); clear hS; rintro v w1 ⟨r2, c2, mw, rfl, hS⟩; refine ⟨(by first | exact hS | exact hS.tail | exact hS.sublist (by repeat (first | exact List.Sublist.refl _ | refine .cons_cons _ ?_ | refine .cons _ ?_))), ?_⟩)
            | (refine OP.still (by exact Still.any) hS rfl ⟨(by first | exact hS | exact hS.tail | exact hS.sublist (by repeat (first | exact List.Sublist.refl _ | refine .cons_cons _ ?_ | refine .cons _ ?_))), ?_⟩)
            all_goals
              apply RH.all2 (i1 := 5) (i2 := 11) (listed := (bm 16 31))
              · kernel_rfl
              · apply RI.op (i := 5) (listed := (bm 16 31)) (listed' := (bm 16 63)); rfl; kernel_rfl
                all_goals try first
                | (apply OP.callF; rfl; rfl; rfl; show Cl _ 13 _ _ _; exact heard_calls hflen (hS.take (by focus ((repeat (first | apply Has.head | apply Take.head | apply Put.head | apply Has.tail | apply Take.tail | apply Put.tail)); done))); clear hS; intro va w1 hS; refine ⟨(by first | exact hS | exact hS.tail | exact hS.sublist (by repeat (first | exact List.Sublist.refl _ | refine .cons_cons _ ?_ | refine .cons _ ?_))), ?_⟩)
                | (apply OP.callF; rfl; rfl; rfl; show Cl _ 17 _ _ _; exact rof_calls hs1 (by omega) hS; clear hS; intro vo w1 hS; refine ⟨(by first | exact hS | exact hS.tail | exact hS.sublist (by repeat (first | exact List.Sublist.refl _ | refine .cons_cons _ ?_ | refine .cons _ ?_))), ?_⟩)
                | (apply OP.callF; rfl; rfl; rfl; show Cl _ 16 _ _ _; exact href (tke3 hS (by focus ((repeat (first | apply Has.head | apply Take.head | apply Put.head | apply Has.tail | apply Take.tail | apply Put.tail)); done)) (by focus ((repeat (first | apply Has.head | apply Take.head | apply Put.head | apply Has.tail | apply Take.tail | apply Put.tail)); done)) (by focus ((repeat (first | apply Has.head | apply Take.head | apply Put.head | apply Has.tail | apply Take.tail | apply Put.tail)); done))); clear hS; rintro v w1 ⟨r2, c2, mw, rfl, hS⟩; refine ⟨(by first | exact hS | exact hS.tail | exact hS.sublist (by repeat (first | exact List.Sublist.refl _ | refine .cons_cons _ ?_ | refine .cons _ ?_))), ?_⟩)
                | (refine OP.still (by exact Still.any) hS rfl ⟨(by first | exact hS | exact hS.tail | exact hS.sublist (by repeat (first | exact List.Sublist.refl _ | refine .cons_cons _ ?_ | refine .cons _ ?_))), ?_⟩)
                all_goals (apply RH.take (i := 6) (listed := (bm 16 63)) (listed' := (bm 16 127)); rfl; kernel_rfl; kernel_rfl; (apply Still.move; rfl); (first | exact hS | exact hS.tail | exact hS.sublist (by repeat (first | exact List.Sublist.refl _ | refine .cons_cons _ ?_ | refine .cons _ ?_))); rfl)
                all_goals (apply RH.take (i := 7) (listed := (bm 16 127)) (listed' := (bm 16 255)); rfl; kernel_rfl; kernel_rfl; (apply Still.extract; rfl; rfl); (first | exact hS | exact hS.tail | exact hS.sublist (by repeat (first | exact List.Sublist.refl _ | refine .cons_cons _ ?_ | refine .cons _ ?_))); rfl)
                all_goals (apply RH.take (i := 8) (listed := (bm 16 255)) (listed' := (bm 16 511)); rfl; kernel_rfl; kernel_rfl; (apply Still.extract; rfl; rfl); (first | exact hS | exact hS.tail | exact hS.sublist (by repeat (first | exact List.Sublist.refl _ | refine .cons_cons _ ?_ | refine .cons _ ?_))); rfl)
                all_goals (apply RH.take (i := 9) (listed := (bm 16 511)) (listed' := (bm 16 1023)); rfl; kernel_rfl; kernel_rfl; (apply Still.extract; rfl; rfl); (first | exact hS | exact hS.tail | exact hS.sublist (by repeat (first | exact List.Sublist.refl _ | refine .cons_cons _ ?_ | refine .cons _ ?_))); rfl)
                all_goals (apply RH.take (i := 10) (listed := (bm 16 1023)) (listed' := (bm 16 2047)); rfl; kernel_rfl; kernel_rfl; (apply Still.extract; rfl; rfl); (first | exact hS | exact hS.tail | exact hS.sublist (by repeat (first | exact List.Sublist.refl _ | refine .cons_cons _ ?_ | refine .cons _ ?_))); rfl)
                all_goals
                  apply RH.all1 (i := 11) (listed := (bm 16 2047))
                  · kernel_rfl
                  · apply RI.op (i := 11) (listed := (bm 16 2047)) (listed' := (bm 16 4095)); rfl; kernel_rfl
                    all_goals try first
                    | (apply OP.alloc hS; rfl; rfl; rfl; clear hS; intro b w1 hS; refine ⟨(by first | exact hS | exact hS.tail | exact hS.sublist (by repeat (first | exact List.Sublist.refl _ | refine .cons_cons _ ?_ | refine .cons _ ?_))), ?_⟩)
                    all_goals
                      apply RH.all1 (i := 12) (listed := (bm 16 4095))
                      · kernel_rfl
                      · apply RI.op (i := 12) (listed := (bm 16 4095)) (listed' := (bm 16 8191)); rfl; kernel_rfl
                        all_goals try first
                        | (apply OP.store hS; rfl; rfl; rfl; rfl; rfl; (focus ((repeat (first | apply Has.head | apply Take.head | apply Put.head | apply Has.tail | apply Take.tail | apply Put.tail)); done)); rfl; rfl; clear hS; intro w1 hS; refine ⟨(by first | exact hS | exact hS.tail | exact hS.sublist (by repeat (first | exact List.Sublist.refl _ | refine .cons_cons _ ?_ | refine .cons _ ?_))), ?_⟩)
                        all_goals (apply RH.take (i := 13) (listed := (bm 16 8191)) (listed' := (bm 16 16383)); rfl; kernel_rfl; kernel_rfl; (apply Still.assign; rfl); (first | exact hS | exact hS.tail | exact hS.sublist (by repeat (first | exact List.Sublist.refl _ | refine .cons_cons _ ?_ | refine .cons _ ?_))); rfl)
                        all_goals (apply RH.take (i := 14) (listed := (bm 16 16383)) (listed' := (bm 16 32767)); rfl; kernel_rfl; kernel_rfl; (apply Still.assign; rfl); (first | exact hS | exact hS.tail | exact hS.sublist (by repeat (first | exact List.Sublist.refl _ | refine .cons_cons _ ?_ | refine .cons _ ?_))); rfl)
                        all_goals (apply RH.take (i := 15) (listed := (bm 16 32767)) (listed' := (bm 16 65535)); rfl; kernel_rfl; kernel_rfl; (apply Still.assign; rfl); (first | exact hS | exact hS.tail | exact hS.sublist (by repeat (first | exact List.Sublist.refl _ | refine .cons_cons _ ?_ | refine .cons _ ?_))); rfl)
                        all_goals (apply RH.done (listed := (bm 16 65535)); kernel_rfl)
                        all_goals (exact ⟨(r2, c2, b, mw), (by focus ((repeat (first | exact .nil | refine .cons rfl ?_)); done)), hS.picks (by focus ((repeat (first | apply Picks.all | apply Picks.nil | (refine Picks.cons (by repeat (first | apply Take.head | apply Take.tail)) ?_) | apply Picks.drop)); done))⟩)
              · apply RI.op (i := 11) (listed := (bm 16 31)) (listed' := (bm 16 2079)); rfl; kernel_rfl
                all_goals try first
                | (apply OP.alloc hS; rfl; rfl; rfl; clear hS; intro b w1 hS; refine ⟨(by first | exact hS | exact hS.tail | exact hS.sublist (by repeat (first | exact List.Sublist.refl _ | refine .cons_cons _ ?_ | refine .cons _ ?_))), ?_⟩)
                all_goals
                  apply RH.all1 (i := 5) (listed := (bm 16 2079))
                  · kernel_rfl
                  · apply RI.op (i := 5) (listed := (bm 16 2079)) (listed' := (bm 16 2111)); rfl; kernel_rfl
                    all_goals try first
                    | (apply OP.callF; rfl; rfl; rfl; show Cl _ 13 _ _ _; exact heard_calls hflen (hS.take (by focus ((repeat (first | apply Has.head | apply Take.head | apply Put.head | apply Has.tail | apply Take.tail | apply Put.tail)); done))); clear hS; intro va w1 hS; refine ⟨(by first | exact hS | exact hS.tail | exact hS.sublist (by repeat (first | exact List.Sublist.refl _ | refine .cons_cons _ ?_ | refine .cons _ ?_))), ?_⟩)
                    | (apply OP.callF; rfl; rfl; rfl; show Cl _ 17 _ _ _; exact rof_calls hs1 (by omega) hS; clear hS; intro vo w1 hS; refine ⟨(by first | exact hS | exact hS.tail | exact hS.sublist (by repeat (first | exact List.Sublist.refl _ | refine .cons_cons _ ?_ | refine .cons _ ?_))), ?_⟩)
                    | (apply OP.callF; rfl; rfl; rfl; show Cl _ 16 _ _ _; exact href (tke3 hS (by focus ((repeat (first | apply Has.head | apply Take.head | apply Put.head | apply Has.tail | apply Take.tail | apply Put.tail)); done)) (by focus ((repeat (first | apply Has.head | apply Take.head | apply Put.head | apply Has.tail | apply Take.tail | apply Put.tail)); done)) (by focus ((repeat (first | apply Has.head | apply Take.head | apply Put.head | apply Has.tail | apply Take.tail | apply Put.tail)); done))); clear hS; rintro v w1 ⟨r2, c2, mw, rfl, hS⟩; refine ⟨(by first | exact hS | exact hS.tail | exact hS.sublist (by repeat (first | exact List.Sublist.refl _ | refine .cons_cons _ ?_ | refine .cons _ ?_))), ?_⟩)
                    | (refine OP.still (by exact Still.any) hS rfl ⟨(by first | exact hS | exact hS.tail | exact hS.sublist (by repeat (first | exact List.Sublist.refl _ | refine .cons_cons _ ?_ | refine .cons _ ?_))), ?_⟩)
                    all_goals (apply RH.take (i := 6) (listed := (bm 16 2111)) (listed' := (bm 16 2175)); rfl; kernel_rfl; kernel_rfl; (apply Still.move; rfl); (first | exact hS | exact hS.tail | exact hS.sublist (by repeat (first | exact List.Sublist.refl _ | refine .cons_cons _ ?_ | refine .cons _ ?_))); rfl)
                    all_goals (apply RH.take (i := 7) (listed := (bm 16 2175)) (listed' := (bm 16 2303)); rfl; kernel_rfl; kernel_rfl; (apply Still.extract; rfl; rfl); (first | exact hS | exact hS.tail | exact hS.sublist (by repeat (first | exact List.Sublist.refl _ | refine .cons_cons _ ?_ | refine .cons _ ?_))); rfl)
                    all_goals (apply RH.take (i := 8) (listed := (bm 16 2303)) (listed' := (bm 16 2559)); rfl; kernel_rfl; kernel_rfl; (apply Still.extract; rfl; rfl); (first | exact hS | exact hS.tail | exact hS.sublist (by repeat (first | exact List.Sublist.refl _ | refine .cons_cons _ ?_ | refine .cons _ ?_))); rfl)
                    all_goals (apply RH.take (i := 9) (listed := (bm 16 2559)) (listed' := (bm 16 3071)); rfl; kernel_rfl; kernel_rfl; (apply Still.extract; rfl; rfl); (first | exact hS | exact hS.tail | exact hS.sublist (by repeat (first | exact List.Sublist.refl _ | refine .cons_cons _ ?_ | refine .cons _ ?_))); rfl)
                    all_goals (apply RH.take (i := 10) (listed := (bm 16 3071)) (listed' := (bm 16 4095)); rfl; kernel_rfl; kernel_rfl; (apply Still.extract; rfl; rfl); (first | exact hS | exact hS.tail | exact hS.sublist (by repeat (first | exact List.Sublist.refl _ | refine .cons_cons _ ?_ | refine .cons _ ?_))); rfl)
                    all_goals
                      apply RH.all1 (i := 12) (listed := (bm 16 4095))
                      · kernel_rfl
                      · apply RI.op (i := 12) (listed := (bm 16 4095)) (listed' := (bm 16 8191)); rfl; kernel_rfl
                        all_goals try first
                        | (apply OP.store hS; rfl; rfl; rfl; rfl; rfl; (focus ((repeat (first | apply Has.head | apply Take.head | apply Put.head | apply Has.tail | apply Take.tail | apply Put.tail)); done)); rfl; rfl; clear hS; intro w1 hS; refine ⟨(by first | exact hS | exact hS.tail | exact hS.sublist (by repeat (first | exact List.Sublist.refl _ | refine .cons_cons _ ?_ | refine .cons _ ?_))), ?_⟩)
                        all_goals (apply RH.take (i := 13) (listed := (bm 16 8191)) (listed' := (bm 16 16383)); rfl; kernel_rfl; kernel_rfl; (apply Still.assign; rfl); (first | exact hS | exact hS.tail | exact hS.sublist (by repeat (first | exact List.Sublist.refl _ | refine .cons_cons _ ?_ | refine .cons _ ?_))); rfl)
                        all_goals (apply RH.take (i := 14) (listed := (bm 16 16383)) (listed' := (bm 16 32767)); rfl; kernel_rfl; kernel_rfl; (apply Still.assign; rfl); (first | exact hS | exact hS.tail | exact hS.sublist (by repeat (first | exact List.Sublist.refl _ | refine .cons_cons _ ?_ | refine .cons _ ?_))); rfl)
                        all_goals (apply RH.take (i := 15) (listed := (bm 16 32767)) (listed' := (bm 16 65535)); rfl; kernel_rfl; kernel_rfl; (apply Still.assign; rfl); (first | exact hS | exact hS.tail | exact hS.sublist (by repeat (first | exact List.Sublist.refl _ | refine .cons_cons _ ?_ | refine .cons _ ?_))); rfl)
                        all_goals (apply RH.done (listed := (bm 16 65535)); kernel_rfl)
                        all_goals (exact ⟨(r2, c2, b, mw), (by focus ((repeat (first | exact .nil | refine .cons rfl ?_)); done)), hS.picks (by focus ((repeat (first | apply Picks.all | apply Picks.nil | (refine Picks.cons (by repeat (first | apply Take.head | apply Take.tail)) ?_) | apply Picks.drop)); done))⟩)
          · apply RI.op (i := 11) (listed := (bm 16 15)) (listed' := (bm 16 2063)); rfl; kernel_rfl
            all_goals try first
            | (apply OP.alloc hS; rfl; rfl; rfl; clear hS; intro b w1 hS; refine ⟨(by first | exact hS | exact hS.tail | exact hS.sublist (by repeat (first | exact List.Sublist.refl _ | refine .cons_cons _ ?_ | refine .cons _ ?_))), ?_⟩)
            all_goals
              apply RH.all1 (i := 4) (listed := (bm 16 2063))
              · kernel_rfl
              · apply RI.op (i := 4) (listed := (bm 16 2063)) (listed' := (bm 16 2079)); rfl; kernel_rfl
                all_goals try first
                | (apply OP.callF; rfl; rfl; rfl; show Cl _ 13 _ _ _; exact heard_calls hflen (hS.take (by focus ((repeat (first | apply Has.head | apply Take.head | apply Put.head | apply Has.tail | apply Take.tail | apply Put.tail)); done))); clear hS; intro va w1 hS; refine ⟨(by first | exact hS | exact hS.tail | exact hS.sublist (by repeat (first | exact List.Sublist.refl _ | refine .cons_cons _ ?_ | refine .cons _ ?_))), ?_⟩)
                | (apply OP.callF; rfl; rfl; rfl; show Cl _ 17 _ _ _; exact rof_calls hs1 (by omega) hS; clear hS; intro vo w1 hS; refine ⟨(by first | exact hS | exact hS.tail | exact hS.sublist (by repeat (first | exact List.Sublist.refl _ | refine .cons_cons _ ?_ | refine .cons _ ?_))), ?_⟩)
                | (apply OP.callF; rfl; rfl; rfl; show Cl _ 16 _ _ _; exact href (tke3 hS (by focus ((repeat (first | apply Has.head | apply Take.head | apply Put.head | apply Has.tail | apply Take.tail | apply Put.tail)); done)) (by focus ((repeat (first | apply Has.head | apply Take.head | apply Put.head | apply Has.tail | apply Take.tail | apply Put.tail)); done)) (by focus ((repeat (first | apply Has.head | apply Take.head | apply Put.head | apply Has.tail | apply Take.tail | apply Put.tail)); done))); clear hS; rintro v w1 ⟨r2, c2, mw, rfl, hS⟩; refine ⟨(by first | exact hS | exact hS.tail | exact hS.sublist (by repeat (first | exact List.Sublist.refl _ | refine .cons_cons _ ?_ | refine .cons _ ?_))), ?_⟩)
                | (refine OP.still (by exact Still.any) hS rfl ⟨(by first | exact hS | exact hS.tail | exact hS.sublist (by repeat (first | exact List.Sublist.refl _ | refine .cons_cons _ ?_ | refine .cons _ ?_))), ?_⟩)
                all_goals
                  apply RH.all1 (i := 5) (listed := (bm 16 2079))
                  · kernel_rfl
                  · apply RI.op (i := 5) (listed := (bm 16 2079)) (listed' := (bm 16 2111)); rfl; kernel_rfl
                    all_goals try first
                    | (apply OP.callF; rfl; rfl; rfl; show Cl _ 13 _ _ _; exact heard_calls hflen (hS.take (by focus ((repeat (first | apply Has.head | apply Take.head | apply Put.head | apply Has.tail | apply Take.tail | apply Put.tail)); done))); clear hS; intro va w1 hS; refine ⟨(by first | exact hS | exact hS.tail | exact hS.sublist (by repeat (first | exact List.Sublist.refl _ | refine .cons_cons _ ?_ | refine .cons _ ?_))), ?_⟩)
                    | (apply OP.callF; rfl; rfl; rfl; show Cl _ 17 _ _ _; exact rof_calls hs1 (by omega) hS; clear hS; intro vo w1 hS; refine ⟨(by first | exact hS | exact hS.tail | exact hS.sublist (by repeat (first | exact List.Sublist.refl _ | refine .cons_cons _ ?_ | refine .cons _ ?_))), ?_⟩)
                    | (apply OP.callF; rfl; rfl; rfl; show Cl _ 16 _ _ _; exact href (tke3 hS (by focus ((repeat (first | apply Has.head | apply Take.head | apply Put.head | apply Has.tail | apply Take.tail | apply Put.tail)); done)) (by focus ((repeat (first | apply Has.head | apply Take.head | apply Put.head | apply Has.tail | apply Take.tail | apply Put.tail)); done)) (by focus ((repeat (first | apply Has.head | apply Take.head | apply Put.head | apply Has.tail | apply Take.tail | apply Put.tail)); done))); clear hS; rintro v w1 ⟨r2, c2, mw, rfl, hS⟩; refine ⟨(by first | exact hS | exact hS.tail | exact hS.sublist (by repeat (first | exact List.Sublist.refl _ | refine .cons_cons _ ?_ | refine .cons _ ?_))), ?_⟩)
                    | (refine OP.still (by exact Still.any) hS rfl ⟨(by first | exact hS | exact hS.tail | exact hS.sublist (by repeat (first | exact List.Sublist.refl _ | refine .cons_cons _ ?_ | refine .cons _ ?_))), ?_⟩)
                    all_goals (apply RH.take (i := 6) (listed := (bm 16 2111)) (listed' := (bm 16 2175)); rfl; kernel_rfl; kernel_rfl; (apply Still.move; rfl); (first | exact hS | exact hS.tail | exact hS.sublist (by repeat (first | exact List.Sublist.refl _ | refine .cons_cons _ ?_ | refine .cons _ ?_))); rfl)
                    all_goals (apply RH.take (i := 7) (listed := (bm 16 2175)) (listed' := (bm 16 2303)); rfl; kernel_rfl; kernel_rfl; (apply Still.extract; rfl; rfl); (first | exact hS | exact hS.tail | exact hS.sublist (by repeat (first | exact List.Sublist.refl _ | refine .cons_cons _ ?_ | refine .cons _ ?_))); rfl)
                    all_goals (apply RH.take (i := 8) (listed := (bm 16 2303)) (listed' := (bm 16 2559)); rfl; kernel_rfl; kernel_rfl; (apply Still.extract; rfl; rfl); (first | exact hS | exact hS.tail | exact hS.sublist (by repeat (first | exact List.Sublist.refl _ | refine .cons_cons _ ?_ | refine .cons _ ?_))); rfl)
                    all_goals (apply RH.take (i := 9) (listed := (bm 16 2559)) (listed' := (bm 16 3071)); rfl; kernel_rfl; kernel_rfl; (apply Still.extract; rfl; rfl); (first | exact hS | exact hS.tail | exact hS.sublist (by repeat (first | exact List.Sublist.refl _ | refine .cons_cons _ ?_ | refine .cons _ ?_))); rfl)
                    all_goals (apply RH.take (i := 10) (listed := (bm 16 3071)) (listed' := (bm 16 4095)); rfl; kernel_rfl; kernel_rfl; (apply Still.extract; rfl; rfl); (first | exact hS | exact hS.tail | exact hS.sublist (by repeat (first | exact List.Sublist.refl _ | refine .cons_cons _ ?_ | refine .cons _ ?_))); rfl)
                    all_goals
                      apply RH.all1 (i := 12) (listed := (bm 16 4095))
                      · kernel_rfl
                      · apply RI.op (i := 12) (listed := (bm 16 4095)) (listed' := (bm 16 8191)); rfl; kernel_rfl
                        all_goals try first
                        | (apply OP.store hS; rfl; rfl; rfl; rfl; rfl; (focus ((repeat (first | apply Has.head | apply Take.head | apply Put.head | apply Has.tail | apply Take.tail | apply Put.tail)); done)); rfl; rfl; clear hS; intro w1 hS; refine ⟨(by first | exact hS | exact hS.tail | exact hS.sublist (by repeat (first | exact List.Sublist.refl _ | refine .cons_cons _ ?_ | refine .cons _ ?_))), ?_⟩)
                        all_goals (apply RH.take (i := 13) (listed := (bm 16 8191)) (listed' := (bm 16 16383)); rfl; kernel_rfl; kernel_rfl; (apply Still.assign; rfl); (first | exact hS | exact hS.tail | exact hS.sublist (by repeat (first | exact List.Sublist.refl _ | refine .cons_cons _ ?_ | refine .cons _ ?_))); rfl)
                        all_goals (apply RH.take (i := 14) (listed := (bm 16 16383)) (listed' := (bm 16 32767)); rfl; kernel_rfl; kernel_rfl; (apply Still.assign; rfl); (first | exact hS | exact hS.tail | exact hS.sublist (by repeat (first | exact List.Sublist.refl _ | refine .cons_cons _ ?_ | refine .cons _ ?_))); rfl)
                        all_goals (apply RH.take (i := 15) (listed := (bm 16 32767)) (listed' := (bm 16 65535)); rfl; kernel_rfl; kernel_rfl; (apply Still.assign; rfl); (first | exact hS | exact hS.tail | exact hS.sublist (by repeat (first | exact List.Sublist.refl _ | refine .cons_cons _ ?_ | refine .cons _ ?_))); rfl)
                        all_goals (apply RH.done (listed := (bm 16 65535)); kernel_rfl)
                        all_goals (exact ⟨(r2, c2, b, mw), (by focus ((repeat (first | exact .nil | refine .cons rfl ?_)); done)), hS.picks (by focus ((repeat (first | apply Picks.all | apply Picks.nil | (refine Picks.cons (by repeat (first | apply Take.head | apply Take.tail)) ?_) | apply Picks.drop)); done))⟩)
      · apply RI.op (i := 11) (listed := (bm 16 11)) (listed' := (bm 16 2059)); rfl; kernel_rfl
        all_goals try first
        | (apply OP.alloc hS; rfl; rfl; rfl; clear hS; intro b w1 hS; refine ⟨(by first | exact hS | exact hS.tail | exact hS.sublist (by repeat (first | exact List.Sublist.refl _ | refine .cons_cons _ ?_ | refine .cons _ ?_))), ?_⟩)
        all_goals
          apply RH.all1 (i := 2) (listed := (bm 16 2059))
          · kernel_rfl
          · apply RI.op (i := 2) (listed := (bm 16 2059)) (listed' := (bm 16 2063)); rfl; kernel_rfl
            all_goals try first
            | (apply OP.callF; rfl; rfl; rfl; show Cl _ 13 _ _ _; exact heard_calls hflen (hS.take (by focus ((repeat (first | apply Has.head | apply Take.head | apply Put.head | apply Has.tail | apply Take.tail | apply Put.tail)); done))); clear hS; intro va w1 hS; refine ⟨(by first | exact hS | exact hS.tail | exact hS.sublist (by repeat (first | exact List.Sublist.refl _ | refine .cons_cons _ ?_ | refine .cons _ ?_))), ?_⟩)
            | (apply OP.callF; rfl; rfl; rfl; show Cl _ 17 _ _ _; exact rof_calls hs1 (by omega) hS; clear hS; intro vo w1 hS; refine ⟨(by first | exact hS | exact hS.tail | exact hS.sublist (by repeat (first | exact List.Sublist.refl _ | refine .cons_cons _ ?_ | refine .cons _ ?_))), ?_⟩)
            | (apply OP.callF; rfl; rfl; rfl; show Cl _ 16 _ _ _; exact href (tke3 hS (by focus ((repeat (first | apply Has.head | apply Take.head | apply Put.head | apply Has.tail | apply Take.tail | apply Put.tail)); done)) (by focus ((repeat (first | apply Has.head | apply Take.head | apply Put.head | apply Has.tail | apply Take.tail | apply Put.tail)); done)) (by focus ((repeat (first | apply Has.head | apply Take.head | apply Put.head | apply Has.tail | apply Take.tail | apply Put.tail)); done))); clear hS; rintro v w1 ⟨r2, c2, mw, rfl, hS⟩; refine ⟨(by first | exact hS | exact hS.tail | exact hS.sublist (by repeat (first | exact List.Sublist.refl _ | refine .cons_cons _ ?_ | refine .cons _ ?_))), ?_⟩)
            | (refine OP.still (by exact Still.any) hS rfl ⟨(by first | exact hS | exact hS.tail | exact hS.sublist (by repeat (first | exact List.Sublist.refl _ | refine .cons_cons _ ?_ | refine .cons _ ?_))), ?_⟩)
            all_goals
              apply RH.all1 (i := 4) (listed := (bm 16 2063))
              · kernel_rfl
              · apply RI.op (i := 4) (listed := (bm 16 2063)) (listed' := (bm 16 2079)); rfl; kernel_rfl
                all_goals try first
                | (apply OP.callF; rfl; rfl; rfl; show Cl _ 13 _ _ _; exact heard_calls hflen (hS.take (by focus ((repeat (first | apply Has.head | apply Take.head | apply Put.head | apply Has.tail | apply Take.tail | apply Put.tail)); done))); clear hS; intro va w1 hS; refine ⟨(by first | exact hS | exact hS.tail | exact hS.sublist (by repeat (first | exact List.Sublist.refl _ | refine .cons_cons _ ?_ | refine .cons _ ?_))), ?_⟩)
                | (apply OP.callF; rfl; rfl; rfl; show Cl _ 17 _ _ _; exact rof_calls hs1 (by omega) hS; clear hS; intro vo w1 hS; refine ⟨(by first | exact hS | exact hS.tail | exact hS.sublist (by repeat (first | exact List.Sublist.refl _ | refine .cons_cons _ ?_ | refine .cons _ ?_))), ?_⟩)
                | (apply OP.callF; rfl; rfl; rfl; show Cl _ 16 _ _ _; exact href (tke3 hS (by focus ((repeat (first | apply Has.head | apply Take.head | apply Put.head | apply Has.tail | apply Take.tail | apply Put.tail)); done)) (by focus ((repeat (first | apply Has.head | apply Take.head | apply Put.head | apply Has.tail | apply Take.tail | apply Put.tail)); done)) (by focus ((repeat (first | apply Has.head | apply Take.head | apply Put.head | apply Has.tail | apply Take.tail | apply Put.tail)); done))); clear hS; rintro v w1 ⟨r2, c2, mw, rfl, hS⟩; refine ⟨(by first | exact hS | exact hS.tail | exact hS.sublist (by repeat (first | exact List.Sublist.refl _ | refine .cons_cons _ ?_ | refine .cons _ ?_))), ?_⟩)
                | (refine OP.still (by exact Still.any) hS rfl ⟨(by first | exact hS | exact hS.tail | exact hS.sublist (by repeat (first | exact List.Sublist.refl _ | refine .cons_cons _ ?_ | refine .cons _ ?_))), ?_⟩)
                all_goals
                  apply RH.all1 (i := 5) (listed := (bm 16 2079))
                  · kernel_rfl
                  · apply RI.op (i := 5) (listed := (bm 16 2079)) (listed' := (bm 16 2111)); rfl; kernel_rfl
                    all_goals try first
                    | (apply OP.callF; rfl; rfl; rfl; show Cl _ 13 _ _ _; exact heard_calls hflen (hS.take (by focus ((repeat (first | apply Has.head | apply Take.head | apply Put.head | apply Has.tail | apply Take.tail | apply Put.tail)); done))); clear hS; intro va w1 hS; refine ⟨(by first | exact hS | exact hS.tail | exact hS.sublist (by repeat (first | exact List.Sublist.refl _ | refine .cons_cons _ ?_ | refine .cons _ ?_))), ?_⟩)
                    | (apply OP.callF; rfl; rfl; rfl; show Cl _ 17 _ _ _; exact rof_calls hs1 (by omega) hS; clear hS; intro vo w1 hS; refine ⟨(by first | exact hS | exact hS.tail | exact hS.sublist (by repeat (first | exact List.Sublist.refl _ | refine .cons_cons _ ?_ | refine .cons _ ?_))), ?_⟩)
                    | (apply OP.callF; rfl; rfl; rfl; show Cl _ 16 _ _ _; exact href (tke3 hS (by focus ((repeat (first | apply Has.head | apply Take.head | apply Put.head | apply Has.tail | apply Take.tail | apply Put.tail)); done)) (by focus ((repeat (first | apply Has.head | apply Take.head | apply Put.head | apply Has.tail | apply Take.tail | apply Put.tail)); done)) (by focus ((repeat (first | apply Has.head | apply Take.head | apply Put.head | apply Has.tail | apply Take.tail | apply Put.tail)); done))); clear hS; rintro v w1 ⟨r2, c2, mw, rfl, hS⟩; refine ⟨(by first | exact hS | exact hS.tail | exact hS.sublist (by repeat (first | exact List.Sublist.refl _ | refine .cons_cons _ ?_ | refine .cons _ ?_))), ?_⟩)
                    | (refine OP.still (by exact Still.any) hS rfl ⟨(by first | exact hS | exact hS.tail | exact hS.sublist (by repeat (first | exact List.Sublist.refl _ | refine .cons_cons _ ?_ | refine .cons _ ?_))), ?_⟩)
                    all_goals (apply RH.take (i := 6) (listed := (bm 16 2111)) (listed' := (bm 16 2175)); rfl; kernel_rfl; kernel_rfl; (apply Still.move; rfl); (first | exact hS | exact hS.tail | exact hS.sublist (by repeat (first | exact List.Sublist.refl _ | refine .cons_cons _ ?_ | refine .cons _ ?_))); rfl)
                    all_goals (apply RH.take (i := 7) (listed := (bm 16 2175)) (listed' := (bm 16 2303)); rfl; kernel_rfl; kernel_rfl; (apply Still.extract; rfl; rfl); (first | exact hS | exact hS.tail | exact hS.sublist (by repeat (first | exact List.Sublist.refl _ | refine .cons_cons _ ?_ | refine .cons _ ?_))); rfl)
                    all_goals (apply RH.take (i := 8) (listed := (bm 16 2303)) (listed' := (bm 16 2559)); rfl; kernel_rfl; kernel_rfl; (apply Still.extract; rfl; rfl); (first | exact hS | exact hS.tail | exact hS.sublist (by repeat (first | exact List.Sublist.refl _ | refine .cons_cons _ ?_ | refine .cons _ ?_))); rfl)
                    all_goals (apply RH.take (i := 9) (listed := (bm 16 2559)) (listed' := (bm 16 3071)); rfl; kernel_rfl; kernel_rfl; (apply Still.extract; rfl; rfl); (first | exact hS | exact hS.tail | exact hS.sublist (by repeat (first | exact List.Sublist.refl _ | refine .cons_cons _ ?_ | refine .cons _ ?_))); rfl)
                    all_goals (apply RH.take (i := 10) (listed := (bm 16 3071)) (listed' := (bm 16 4095)); rfl; kernel_rfl; kernel_rfl; (apply Still.extract; rfl; rfl); (first | exact hS | exact hS.tail | exact hS.sublist (by repeat (first | exact List.Sublist.refl _ | refine .cons_cons _ ?_ | refine .cons _ ?_))); rfl)
                    all_goals
                      apply RH.all1 (i := 12) (listed := (bm 16 4095))
                      · kernel_rfl
                      · apply RI.op (i := 12) (listed := (bm 16 4095)) (listed' := (bm 16 8191)); rfl; kernel_rfl
                        all_goals try first
                        | (apply OP.store hS; rfl; rfl; rfl; rfl; rfl; (focus ((repeat (first | apply Has.head | apply Take.head | apply Put.head | apply Has.tail | apply Take.tail | apply Put.tail)); done)); rfl; rfl; clear hS; intro w1 hS; refine ⟨(by first | exact hS | exact hS.tail | exact hS.sublist (by repeat (first | exact List.Sublist.refl _ | refine .cons_cons _ ?_ | refine .cons _ ?_))), ?_⟩)
                        all_goals (apply RH.take (i := 13) (listed := (bm 16 8191)) (listed' := (bm 16 16383)); rfl; kernel_rfl; kernel_rfl; (apply Still.assign; rfl); (first | exact hS | exact hS.tail | exact hS.sublist (by repeat (first | exact List.Sublist.refl _ | refine .cons_cons _ ?_ | refine .cons _ ?_))); rfl)
                        all_goals (apply RH.take (i := 14) (listed := (bm 16 16383)) (listed' := (bm 16 32767)); rfl; kernel_rfl; kernel_rfl; (apply Still.assign; rfl); (first | exact hS | exact hS.tail | exact hS.sublist (by repeat (first | exact List.Sublist.refl _ | refine .cons_cons _ ?_ | refine .cons _ ?_))); rfl)
                        all_goals (apply RH.take (i := 15) (listed := (bm 16 32767)) (listed' := (bm 16 65535)); rfl; kernel_rfl; kernel_rfl; (apply Still.assign; rfl); (first | exact hS | exact hS.tail | exact hS.sublist (by repeat (first | exact List.Sublist.refl _ | refine .cons_cons _ ?_ | refine .cons _ ?_))); rfl)
                        all_goals (apply RH.done (listed := (bm 16 65535)); kernel_rfl)
                        all_goals (exact ⟨(r2, c2, b, mw), (by focus ((repeat (first | exact .nil | refine .cons rfl ?_)); done)), hS.picks (by focus ((repeat (first | apply Picks.all | apply Picks.nil | (refine Picks.cons (by repeat (first | apply Take.head | apply Take.tail)) ?_) | apply Picks.drop)); done))⟩)
  clear hS
  rintro ⟨r2, c2, b15, mw⟩ w1 hS
  obtain ⟨ρ2, o2, s2, hT⟩ := vec_freeze intL_length hS
  obtain ⟨sp5, cap5, rfl, hle5, hcm5, -⟩ := s2.val
  clear hS
  have hS := hT
  clear hT
  have s1' := s1.mono o2.sub
  repeat' first
    | (apply RO.op; apply OP.callF; rfl; rfl; rfl; show Cl _ 18 _ _ _; exact same_calls (hS.take2 (by focus ((repeat (first | apply Has.head | apply Take.head | apply Put.head | apply Has.tail | apply Take.tail | apply Put.tail)); done)) (by focus ((repeat (first | apply Has.head | apply Take.head | apply Put.head | apply Has.tail | apply Take.tail | apply Put.tail)); done))); clear hS; rintro v w1 ⟨rfl, hS⟩)
    | (apply OP.callF; rfl; rfl; rfl; show Cl _ 18 _ _ _; exact same_calls (hS.take2 (by focus ((repeat (first | apply Has.head | apply Take.head | apply Put.head | apply Has.tail | apply Take.tail | apply Put.tail)); done)) (by focus ((repeat (first | apply Has.head | apply Take.head | apply Put.head | apply Has.tail | apply Take.tail | apply Put.tail)); done))); clear hS; rintro v w1 ⟨rfl, hS⟩; refine ⟨(by first | exact hS | exact hS.tail | exact hS.sublist (by repeat (first | exact List.Sublist.refl _ | refine .cons_cons _ ?_ | refine .cons _ ?_))), ?_⟩)
    | refine Run.seq ?_
    | refine Run.region ?_
    | (refine RO.split ?_ ?_ <;> intro hc <;> try (first | (exfalso; omega) | exact absurd rfl hc | exact Bool.noConfusion hc))
    | refine RO.nil ?_
    | refine RO.still (by exact Still.any) hS rfl ?_
    | (apply RO.op; apply OP.box hS; rfl; rfl; rfl; clear hS; intro b w1 hS)
    | (apply RO.op; apply OP.alloc hS; rfl; rfl; rfl; clear hS; intro b w1 hS)
    | (apply RO.op; apply OP.store hS; rfl; rfl; rfl; rfl; rfl; (focus ((repeat (first | apply Has.head | apply Take.head | apply Put.head | apply Has.tail | apply Take.tail | apply Put.tail)); done)); rfl; rfl; clear hS; intro w1 hS)
    | (apply RO.op; apply OP.buildSlice hS; rfl; rfl; (exact eqAuto); rfl; rfl; rfl; rfl; rfl; clear hS; intro b w1 hS)
    | (apply RO.op; apply OP.makeMap hS; rfl; clear hS; intro b w1 hS)
    | refine RO.yes rfl rfl ?_
    | refine RO.no rfl rfl rfl rfl ?_
    | refine RO.noUndef rfl rfl rfl ?_
    | refine RO.noNone rfl rfl rfl ?_
    | refine Run.cond_true rfl ?_
    | refine Run.cond_false rfl ?_
    | refine Run.skip ?_
    | refine Run.block ?_
    | refine Run.inBlock ?_
    | refine Run.exit rfl ?_
  refine Run.while (fun i : Nat => [(12, .slice sp4 made.length cap4), (16, .slice sp5 made.length cap5), (85, .int .i64 made.length), (86, .int .i64 i)])
    (fun i w => i ≤ made.length ∧ St we ρ2 σ w) (fun i => made.length - i) 0
    ⟨by omega, hS.picks (by focus ((repeat (first | apply Picks.all | apply Picks.nil | (refine Picks.cons (by repeat (first | apply Take.head | apply Take.tail)) ?_) | apply Picks.drop)); done))⟩ (by focus ((repeat (first | exact .nil | refine .cons rfl ?_)); done)) ?_
  clear hS
  rintro i w ⟨hi, hS⟩ ih
  by_cases hlt : i < made.length
  · obtain ⟨b1, oo1, cs1, e1, f1, rfl, m1, hx1⟩ := s1'.int hlt
    obtain ⟨b2, oo2, cs2, e2, f2, rfl, m2, hx2⟩ := s2.int hlt
    repeat' first
      | (refine Run.regionQ_of hS (by rfl) (by kernel_rfl) ?_; clear hS)
      | (refine RQ.still (by apply Still.load; rfl; rfl; exact Rd.ro m1; exact hx1) rfl ?_)
      | (refine RQ.still (by apply Still.load; rfl; rfl; exact Rd.ro m2; exact hx2) rfl ?_)
      | (refine RQ.split ?_ ?_ <;> intro hc <;> try (first | (exfalso; omega) | exact absurd rfl hc | exact Bool.noConfusion hc))
      | (refine RQ.nil ?_; (try clear hS); intro w1 hS)
      | refine RQ.still (by exact Still.any) rfl ?_
      | refine RQ.yes rfl rfl ?_
      | refine RQ.no rfl rfl rfl rfl ?_
      | refine RQ.noUndef rfl rfl rfl ?_
      | refine Run.seq ?_
      | refine Run.region ?_
      | (refine RO.split ?_ ?_ <;> intro hc <;> try (first | (exfalso; omega) | exact absurd rfl hc | exact Bool.noConfusion hc))
      | refine RO.nil ?_
      | refine RO.still (by exact Still.any) hS rfl ?_
      | (apply RO.op; apply OP.box hS; rfl; rfl; rfl; clear hS; intro b w1 hS)
      | (apply RO.op; apply OP.alloc hS; rfl; rfl; rfl; clear hS; intro b w1 hS)
      | (apply RO.op; apply OP.store hS; rfl; rfl; rfl; rfl; rfl; (focus ((repeat (first | apply Has.head | apply Take.head | apply Put.head | apply Has.tail | apply Take.tail | apply Put.tail)); done)); rfl; rfl; clear hS; intro w1 hS)
      | (apply RO.op; apply OP.buildSlice hS; rfl; rfl; (exact eqAuto); rfl; rfl; rfl; rfl; rfl; clear hS; intro b w1 hS)
      | (apply RO.op; apply OP.makeMap hS; rfl; clear hS; intro b w1 hS)
      | refine RO.yes rfl rfl ?_
      | refine RO.no rfl rfl rfl rfl ?_
      | refine RO.noUndef rfl rfl rfl ?_
      | refine RO.noNone rfl rfl rfl ?_
      | refine Run.cond_true rfl ?_
      | refine Run.cond_false rfl ?_
      | refine Run.skip ?_
      | refine Run.block ?_
      | refine Run.inBlock ?_
      | refine Run.exit rfl ?_
    refine Run.weaken (by focus ((repeat (first | exact .nil | refine .cons rfl ?_)); done)) (ih (i + 1) _ ⟨by omega, hS.picks (by focus ((repeat (first | apply Picks.all | apply Picks.nil | (refine Picks.cons (by repeat (first | apply Take.head | apply Take.tail)) ?_) | apply Picks.drop)); done))⟩ (by omega))
  · obtain rfl : i = made.length := by omega
    repeat' first
      | (apply RO.op; apply OP.callF; rfl; rfl; rfl; show Cl _ 9 _ _ _; exact rawake_calls hS; clear hS; rintro v w1 ⟨rfl, hS⟩)
      | (apply OP.callF; rfl; rfl; rfl; show Cl _ 9 _ _ _; exact rawake_calls hS; clear hS; rintro v w1 ⟨rfl, hS⟩; refine ⟨(by first | exact hS | exact hS.tail | exact hS.sublist (by repeat (first | exact List.Sublist.refl _ | refine .cons_cons _ ?_ | refine .cons _ ?_))), ?_⟩)
      | refine Run.seq ?_
      | refine Run.region ?_
      | (refine RO.split ?_ ?_ <;> intro hc <;> try (first | (exfalso; omega) | exact absurd rfl hc | exact Bool.noConfusion hc))
      | refine RO.nil ?_
      | refine RO.still (by exact Still.any) hS rfl ?_
      | (apply RO.op; apply OP.box hS; rfl; rfl; rfl; clear hS; intro b w1 hS)
      | (apply RO.op; apply OP.alloc hS; rfl; rfl; rfl; clear hS; intro b w1 hS)
      | (apply RO.op; apply OP.store hS; rfl; rfl; rfl; rfl; rfl; (focus ((repeat (first | apply Has.head | apply Take.head | apply Put.head | apply Has.tail | apply Take.tail | apply Put.tail)); done)); rfl; rfl; clear hS; intro w1 hS)
      | (apply RO.op; apply OP.buildSlice hS; rfl; rfl; (exact eqAuto); rfl; rfl; rfl; rfl; rfl; clear hS; intro b w1 hS)
      | (apply RO.op; apply OP.makeMap hS; rfl; clear hS; intro b w1 hS)
      | refine RO.yes rfl rfl ?_
      | refine RO.no rfl rfl rfl rfl ?_
      | refine RO.noUndef rfl rfl rfl ?_
      | refine RO.noNone rfl rfl rfl ?_
      | refine Run.cond_true rfl ?_
      | refine Run.cond_false rfl ?_
      | refine Run.skip ?_
      | refine Run.block ?_
      | refine Run.inBlock ?_
      | refine Run.exit rfl ?_
    refine Run.ret Try.func7 rfl (.tmp rfl .nil) ?_
    exact ⟨rfl, o1.back (o2.back (hS.picks (by focus ((repeat (first | apply Picks.all | apply Picks.nil | (refine Picks.cons (by repeat (first | apply Take.head | apply Take.tail)) ?_) | apply Picks.drop)); done))))⟩
end
end Go.Proofs.Ythejfodjielahaa
