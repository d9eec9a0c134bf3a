/-
  A recipe once more makes the same, and leaves the arena and the knowledge as they were: undertonelaw04.RecipeAgain is true.
-/
import Derived.Test.YthejfodjielahaaLawRecipeCans
import Derived.Test.YthejfodjielahaaRecipeMore
namespace Go.Proofs.Ythejfodjielahaa
set_option maxRecDepth 8000
set_option linter.unusedSimpArgs false
set_option linter.unusedVariables false
open Go Go.RowKit

section
variable {we w : World} {ρ : List (Nat × Obj)} {σ F : List HP} {p lim : Nat} {L : List Nd}

set_option maxHeartbeats 8000000 in
theorem recipeAgain_law {l : List Nd} {v : Value} {refs : List Int} {u : Value} {st : List Stp} {z : Value} (hl : Sl ρ ndL 5 v l) (hq : ∀ a ∈ l, 0 ≤ a.n ∧ a.n ≤ 18446744073709551615) (hr : Sl ρ intL 1 u refs) (hq2 : ∀ a ∈ refs, True) (hs : Sl ρ stpL 5 z st) (hq3 : ∀ a ∈ st, 0 ≤ a.n ∧ a.n ≤ 18446744073709551615) (hS : St we ρ σ w) :
    Cl Try.prog 8 [v, u, z] w fun v w' => v = .bool true ∧ St we ρ σ w' := by
  obtain ⟨sp1, cap1, rfl, hle1, hcm1, -⟩ := hl.val
  obtain ⟨sp2, cap2, rfl, hle2, hcm2, -⟩ := hr.val
  obtain ⟨sp3, cap3, rfl, hle3, hcm3, -⟩ := hs.val
  refine Run.calls3 (n := 107) Try.func8 rfl rfl rfl ?_
  by_cases h1 : l.length ≤ 30
  rotate_left
  · repeat' first
      | (apply RO.op; apply OP.callF; rfl; rfl; rfl; show Cl _ 9 _ _ _; exact rawake_calls hS; clear hS; rintro v w1 ⟨rfl, hS⟩)
      | (apply OP.callF; rfl; rfl; rfl; show Cl _ 9 _ _ _; exact rawake_calls hS; clear hS; rintro v w1 ⟨rfl, hS⟩; refine ⟨(by first | exact hS | exact hS.tail | exact hS.sublist (by repeat (first | exact List.Sublist.refl _ | refine .cons_cons _ ?_ | refine .cons _ ?_))), ?_⟩)
      | refine Run.seq ?_
      | refine Run.region ?_
      | (refine RO.split ?_ ?_ <;> intro hc <;> try (first | (exfalso; omega) | exact absurd rfl hc | exact Bool.noConfusion hc))
      | refine RO.nil ?_
      | refine RO.still (by exact Still.any) hS rfl ?_
      | (apply RO.op; apply OP.box hS; rfl; rfl; rfl; clear hS; intro b w1 hS)
      | (apply RO.op; apply OP.alloc hS; rfl; rfl; rfl; clear hS; intro b w1 hS)
      | (apply RO.op; apply OP.store hS; rfl; rfl; rfl; rfl; rfl; (focus ((repeat (first | apply Has.head | apply Take.head | apply Put.head | apply Has.tail | apply Take.tail | apply Put.tail)); done)); rfl; rfl; clear hS; intro w1 hS)
      | (apply RO.op; apply OP.buildSlice hS; rfl; rfl; (exact eqAuto); rfl; rfl; rfl; rfl; rfl; clear hS; intro b w1 hS)
      | (apply RO.op; apply OP.makeMap hS; rfl; clear hS; intro b w1 hS)
      | refine RO.yes rfl rfl ?_
      | refine RO.no rfl rfl rfl rfl ?_
      | refine RO.noUndef rfl rfl rfl ?_
      | refine RO.noNone rfl rfl rfl ?_
      | refine Run.cond_true rfl ?_
      | refine Run.cond_false rfl ?_
      | refine Run.skip ?_
      | refine Run.block ?_
      | refine Run.inBlock ?_
      | refine Run.exit rfl ?_
    all_goals
      refine Run.ret Try.func8 rfl (.tmp rfl .nil) ?_
      exact ⟨rfl, hS.picks (by focus ((repeat (first | apply Picks.all | apply Picks.nil | (refine Picks.cons (by repeat (first | apply Take.head | apply Take.tail)) ?_) | apply Picks.drop)); done))⟩
  by_cases h2 : refs.length ≤ 30
  rotate_left
  · repeat' first
      | (apply RO.op; apply OP.callF; rfl; rfl; rfl; show Cl _ 9 _ _ _; exact rawake_calls hS; clear hS; rintro v w1 ⟨rfl, hS⟩)
      | (apply OP.callF; rfl; rfl; rfl; show Cl _ 9 _ _ _; exact rawake_calls hS; clear hS; rintro v w1 ⟨rfl, hS⟩; refine ⟨(by first | exact hS | exact hS.tail | exact hS.sublist (by repeat (first | exact List.Sublist.refl _ | refine .cons_cons _ ?_ | refine .cons _ ?_))), ?_⟩)
      | refine Run.seq ?_
      | refine Run.region ?_
      | (refine RO.split ?_ ?_ <;> intro hc <;> try (first | (exfalso; omega) | exact absurd rfl hc | exact Bool.noConfusion hc))
      | refine RO.nil ?_
      | refine RO.still (by exact Still.any) hS rfl ?_
      | (apply RO.op; apply OP.box hS; rfl; rfl; rfl; clear hS; intro b w1 hS)
      | (apply RO.op; apply OP.alloc hS; rfl; rfl; rfl; clear hS; intro b w1 hS)
      | (apply RO.op; apply OP.store hS; rfl; rfl; rfl; rfl; rfl; (focus ((repeat (first | apply Has.head | apply Take.head | apply Put.head | apply Has.tail | apply Take.tail | apply Put.tail)); done)); rfl; rfl; clear hS; intro w1 hS)
      | (apply RO.op; apply OP.buildSlice hS; rfl; rfl; (exact eqAuto); rfl; rfl; rfl; rfl; rfl; clear hS; intro b w1 hS)
      | (apply RO.op; apply OP.makeMap hS; rfl; clear hS; intro b w1 hS)
      | refine RO.yes rfl rfl ?_
      | refine RO.no rfl rfl rfl rfl ?_
      | refine RO.noUndef rfl rfl rfl ?_
      | refine RO.noNone rfl rfl rfl ?_
      | refine Run.cond_true rfl ?_
      | refine Run.cond_false rfl ?_
      | refine Run.skip ?_
      | refine Run.block ?_
      | refine Run.inBlock ?_
      | refine Run.exit rfl ?_
    all_goals
      refine Run.ret Try.func8 rfl (.tmp rfl .nil) ?_
      exact ⟨rfl, hS.picks (by focus ((repeat (first | apply Picks.all | apply Picks.nil | (refine Picks.cons (by repeat (first | apply Take.head | apply Take.tail)) ?_) | apply Picks.drop)); done))⟩
  by_cases h3 : st.length ≤ 30
  rotate_left
  · repeat' first
      | (apply RO.op; apply OP.callF; rfl; rfl; rfl; show Cl _ 9 _ _ _; exact rawake_calls hS; clear hS; rintro v w1 ⟨rfl, hS⟩)
      | (apply OP.callF; rfl; rfl; rfl; show Cl _ 9 _ _ _; exact rawake_calls hS; clear hS; rintro v w1 ⟨rfl, hS⟩; refine ⟨(by first | exact hS | exact hS.tail | exact hS.sublist (by repeat (first | exact List.Sublist.refl _ | refine .cons_cons _ ?_ | refine .cons _ ?_))), ?_⟩)
      | refine Run.seq ?_
      | refine Run.region ?_
      | (refine RO.split ?_ ?_ <;> intro hc <;> try (first | (exfalso; omega) | exact absurd rfl hc | exact Bool.noConfusion hc))
      | refine RO.nil ?_
      | refine RO.still (by exact Still.any) hS rfl ?_
      | (apply RO.op; apply OP.box hS; rfl; rfl; rfl; clear hS; intro b w1 hS)
      | (apply RO.op; apply OP.alloc hS; rfl; rfl; rfl; clear hS; intro b w1 hS)
      | (apply RO.op; apply OP.store hS; rfl; rfl; rfl; rfl; rfl; (focus ((repeat (first | apply Has.head | apply Take.head | apply Put.head | apply Has.tail | apply Take.tail | apply Put.tail)); done)); rfl; rfl; clear hS; intro w1 hS)
      | (apply RO.op; apply OP.buildSlice hS; rfl; rfl; (exact eqAuto); rfl; rfl; rfl; rfl; rfl; clear hS; intro b w1 hS)
      | (apply RO.op; apply OP.makeMap hS; rfl; clear hS; intro b w1 hS)
      | refine RO.yes rfl rfl ?_
      | refine RO.no rfl rfl rfl rfl ?_
      | refine RO.noUndef rfl rfl rfl ?_
      | refine RO.noNone rfl rfl rfl ?_
      | refine Run.cond_true rfl ?_
      | refine Run.cond_false rfl ?_
      | refine Run.skip ?_
      | refine Run.block ?_
      | refine Run.inBlock ?_
      | refine Run.exit rfl ?_
    all_goals
      refine Run.ret Try.func8 rfl (.tmp rfl .nil) ?_
      exact ⟨rfl, hS.picks (by focus ((repeat (first | apply Picks.all | apply Picks.nil | (refine Picks.cons (by repeat (first | apply Take.head | apply Take.tail)) ?_) | apply Picks.drop)); done))⟩
  have h40 : l.length ≤ 40 := by omega
  have g := builtUp_good (limit := 300) l
  have hh := learnAll_has g (K := fun _ => false) (by simp) refs
  have hclo := learnAll_closed (L := builtUp (room 300) l) refs
  have hkn := heard_knows (L := builtUp (room 300) l) (refs := refs)
  have hflen : (refs.filter (has (builtUp (room 300) l))).length ≤ 200000 := by
    have := List.length_filter_le (has (builtUp (room 300) l)) refs
    omega
  have hrt := builtUp_rt (limit := 300) l
  generalize hL : builtUp (room 300) l = L at g hh hclo hflen hkn hrt
  generalize hK : learnAll L refs (fun _ => false) = K at hh hclo hkn
  have hlim := g.lim
  have hlen := g.len
  generalize hhd : refs.filter (has L) = heard at hflen hkn
  have hkit : ∀ {w : World} {σ : List HP}, St we ρ σ w → _ := fun {w σ} hS => kitchen_calls (w := w) (σ := σ) h40 h2 hl hr hL hK hS
  simp only [hhd] at hkit
  have hah : AllHas L heard := fun x hx => hh x (hkn x hx)
  obtain ⟨g2, M, hM⟩ := runS_ext (heard := heard) st L [] 0 g hah (fun x hx => by cases hx)
  have hR2 := runS_again (heard := heard) st L [] 0 g hah (fun x hx => by cases hx)
  have hmd := runS_made (lim := room 300) (heard := heard) st L [] 0
  have hrun : ∀ {w : World} {kb p : Nat} {F : List HP}, St we ρ (KN kb p heard K :: Arena p (room 300) L :: F) w → _ := fun {w kb p F} hS =>
    run_calls (w := w) (kb := kb) (p := p) (F := F) g hs hq3 (by omega) hflen hah hS
  obtain ⟨L2, made, at2, e, hR⟩ : ∃ L2 made at2 e, runS (room 300) heard st L [] 0 = (L2, made, at2, e) := ⟨_, _, _, _, rfl⟩
  simp only [hR] at hrun g2 hM hR2 hmd
  have hrun2 : ∀ {ρ : List (Nat × Obj)} {w : World} {kb p : Nat} {F : List HP}, Sl ρ stpL 5 (.slice sp3 st.length cap3) st → St we ρ (KN kb p heard K :: Arena p (room 300) L2 :: F) w → _ := fun {ρ w kb p F} hs hS =>
    run_calls (w := w) (kb := kb) (p := p) (F := F) g2 hs hq3 (by omega) hflen (by rw [hM]; exact allHas_ext hah) hS
  simp only [hR2] at hrun2
  have hlen2 : made.length ≤ 1000 := by
    by_cases he : e = 0
    · obtain ⟨M, e1, e2⟩ := hmd.1 he
      rw [e1]; simp; omega
    · rw [(hmd.2 he).1]; simp
  have hL2 := g2.len
  repeat' first
    | (apply RO.op; apply OP.callF; rfl; rfl; rfl; show Cl _ 10 _ _ _; exact hkit hS; clear hS; rintro v w1 ⟨kb, p, r, c, rfl, hS⟩)
    | (apply OP.callF; rfl; rfl; rfl; show Cl _ 10 _ _ _; exact hkit hS; clear hS; rintro v w1 ⟨kb, p, r, c, rfl, hS⟩; refine ⟨(by first | exact hS | exact hS.tail | exact hS.sublist (by repeat (first | exact List.Sublist.refl _ | refine .cons_cons _ ?_ | refine .cons _ ?_))), ?_⟩)
    | (apply RO.op; apply OP.callF; rfl; rfl; rfl; show Cl _ 13 _ _ _; exact heard_calls hflen (hS.take (by focus ((repeat (first | apply Has.head | apply Take.head | apply Put.head | apply Has.tail | apply Take.tail | apply Put.tail)); done))); clear hS; intro va w1 hS; obtain ⟨pa, ca, rfl⟩ := vec_slice hS)
    | (apply OP.callF; rfl; rfl; rfl; show Cl _ 13 _ _ _; exact heard_calls hflen (hS.take (by focus ((repeat (first | apply Has.head | apply Take.head | apply Put.head | apply Has.tail | apply Take.tail | apply Put.tail)); done))); clear hS; intro va w1 hS; obtain ⟨pa, ca, rfl⟩ := vec_slice hS; refine ⟨(by first | exact hS | exact hS.tail | exact hS.sublist (by repeat (first | exact List.Sublist.refl _ | refine .cons_cons _ ?_ | refine .cons _ ?_))), ?_⟩)
    | (apply RO.op; apply OP.callF; rfl; rfl; rfl; show Cl _ 19 _ _ _; exact len_calls (hS.take (by focus ((repeat (first | apply Has.head | apply Take.head | apply Put.head | apply Has.tail | apply Take.tail | apply Put.tail)); done))); clear hS; rintro v w1 ⟨rfl, hS⟩)
    | (apply OP.callF; rfl; rfl; rfl; show Cl _ 19 _ _ _; exact len_calls (hS.take (by focus ((repeat (first | apply Has.head | apply Take.head | apply Put.head | apply Has.tail | apply Take.tail | apply Put.tail)); done))); clear hS; rintro v w1 ⟨rfl, hS⟩; refine ⟨(by first | exact hS | exact hS.tail | exact hS.sublist (by repeat (first | exact List.Sublist.refl _ | refine .cons_cons _ ?_ | refine .cons _ ?_))), ?_⟩)
    | (apply RO.op; apply OP.callF; rfl; rfl; rfl; show Cl _ 11 _ _ _; exact hrun (hS.take2 (by focus ((repeat (first | apply Has.head | apply Take.head | apply Put.head | apply Has.tail | apply Take.tail | apply Put.tail)); done)) (by focus ((repeat (first | apply Has.head | apply Take.head | apply Put.head | apply Has.tail | apply Take.tail | apply Put.tail)); done))); clear hS; rintro v w1 ⟨mv, rfl, hS⟩; obtain ⟨ρ1, o1, s1, hT⟩ := vec_freeze intL_length hS; obtain ⟨sp4, cap4, rfl, hle4, hcm4, -⟩ := s1.val; clear hS; have hS := hT; clear hT; have hs1 := hs.mono o1.sub)
    | (apply OP.callF; rfl; rfl; rfl; show Cl _ 11 _ _ _; exact hrun (hS.take2 (by focus ((repeat (first | apply Has.head | apply Take.head | apply Put.head | apply Has.tail | apply Take.tail | apply Put.tail)); done)) (by focus ((repeat (first | apply Has.head | apply Take.head | apply Put.head | apply Has.tail | apply Take.tail | apply Put.tail)); done))); clear hS; rintro v w1 ⟨mv, rfl, hS⟩; obtain ⟨ρ1, o1, s1, hT⟩ := vec_freeze intL_length hS; obtain ⟨sp4, cap4, rfl, hle4, hcm4, -⟩ := s1.val; clear hS; have hS := hT; clear hT; have hs1 := hs.mono o1.sub; refine ⟨(by first | exact hS | exact hS.tail | exact hS.sublist (by repeat (first | exact List.Sublist.refl _ | refine .cons_cons _ ?_ | refine .cons _ ?_))), ?_⟩)
    | (apply RO.op; apply OP.callF; rfl; rfl; rfl; show Cl _ 11 _ _ _; exact hrun2 hs1 (hS.take2 (by focus ((repeat (first | apply Has.head | apply Take.head | apply Put.head | apply Has.tail | apply Take.tail | apply Put.tail)); done)) (by focus ((repeat (first | apply Has.head | apply Take.head | apply Put.head | apply Has.tail | apply Take.tail | apply Put.tail)); done))); clear hS; rintro v w1 ⟨mv, rfl, hS⟩; obtain ⟨ρ2, o2, s2, hT⟩ := vec_freeze intL_length hS; obtain ⟨sp5, cap5, rfl, hle5, hcm5, -⟩ := s2.val; clear hS; have hS := hT; clear hT; have s1' := s1.mono o2.sub; clear s1)
    | (apply OP.callF; rfl; rfl; rfl; show Cl _ 11 _ _ _; exact hrun2 hs1 (hS.take2 (by focus ((repeat (first | apply Has.head | apply Take.head | apply Put.head | apply Has.tail | apply Take.tail | apply Put.tail)); done)) (by focus ((repeat (first | apply Has.head | apply Take.head | apply Put.head | apply Has.tail | apply Take.tail | apply Put.tail)); done))); clear hS; rintro v w1 ⟨mv, rfl, hS⟩; obtain ⟨ρ2, o2, s2, hT⟩ := vec_freeze intL_length hS; obtain ⟨sp5, cap5, rfl, hle5, hcm5, -⟩ := s2.val; clear hS; have hS := hT; clear hT; have s1' := s1.mono o2.sub; clear s1; refine ⟨(by first | exact hS | exact hS.tail | exact hS.sublist (by repeat (first | exact List.Sublist.refl _ | refine .cons_cons _ ?_ | refine .cons _ ?_))), ?_⟩)
    | refine Run.seq ?_
    | refine Run.region ?_
    | (refine RO.split ?_ ?_ <;> intro hc <;> try (first | (exfalso; omega) | exact absurd rfl hc | exact Bool.noConfusion hc))
    | refine RO.nil ?_
    | refine RO.still (by exact Still.any) hS rfl ?_
    | (apply RO.op; apply OP.box hS; rfl; rfl; rfl; clear hS; intro b w1 hS)
    | (apply RO.op; apply OP.alloc hS; rfl; rfl; rfl; clear hS; intro b w1 hS)
    | (apply RO.op; apply OP.store hS; rfl; rfl; rfl; rfl; rfl; (focus ((repeat (first | apply Has.head | apply Take.head | apply Put.head | apply Has.tail | apply Take.tail | apply Put.tail)); done)); rfl; rfl; clear hS; intro w1 hS)
    | (apply RO.op; apply OP.buildSlice hS; rfl; rfl; (exact eqAuto); rfl; rfl; rfl; rfl; rfl; clear hS; intro b w1 hS)
    | (apply RO.op; apply OP.makeMap hS; rfl; clear hS; intro b w1 hS)
    | refine RO.yes rfl rfl ?_
    | refine RO.no rfl rfl rfl rfl ?_
    | refine RO.noUndef rfl rfl rfl ?_
    | refine RO.noNone rfl rfl rfl ?_
    | refine Run.cond_true rfl ?_
    | refine Run.cond_false rfl ?_
    | refine Run.skip ?_
    | refine Run.block ?_
    | refine Run.inBlock ?_
    | refine Run.exit rfl ?_
  refine Run.while (fun i : Nat => [(11, .slice sp4 made.length cap4), (15, .slice sp5 made.length cap5), (92, .int .i64 made.length), (93, .int .i64 i)])
    (fun i w => i ≤ made.length ∧ St we ρ2 σ w) (fun i => made.length - i) 0
    ⟨by omega, hS.picks (by focus ((repeat (first | apply Picks.all | apply Picks.nil | (refine Picks.cons (by repeat (first | apply Take.head | apply Take.tail)) ?_) | apply Picks.drop)); done))⟩ (by focus ((repeat (first | exact .nil | refine .cons rfl ?_)); done)) ?_
  clear hS
  rintro i w ⟨hi, hS⟩ ih
  by_cases hlt : i < made.length
  · obtain ⟨b1, oo1, cs1, e1, f1, rfl, m1, hx1⟩ := s1'.int hlt
    obtain ⟨b2, oo2, cs2, e2, f2, rfl, m2, hx2⟩ := s2.int hlt
    repeat' first
      | (refine Run.regionQ_of hS (by rfl) (by kernel_rfl) ?_; clear hS)
      | (refine RQ.still (by apply Still.load; rfl; rfl; exact Rd.ro m1; exact hx1) rfl ?_)
      | (refine RQ.still (by apply Still.load; rfl; rfl; exact Rd.ro m2; exact hx2) rfl ?_)
      | (refine RQ.split ?_ ?_ <;> intro hc <;> try (first | (exfalso; omega) | exact absurd rfl hc | exact Bool.noConfusion hc))
      | (refine RQ.nil ?_; (try clear hS); intro w1 hS)
      | refine RQ.still (by exact Still.any) rfl ?_
      | refine RQ.yes rfl rfl ?_
      | refine RQ.no rfl rfl rfl rfl ?_
      | refine RQ.noUndef rfl rfl rfl ?_
      | refine Run.seq ?_
      | refine Run.region ?_
      | (refine RO.split ?_ ?_ <;> intro hc <;> try (first | (exfalso; omega) | exact absurd rfl hc | exact Bool.noConfusion hc))
      | refine RO.nil ?_
      | refine RO.still (by exact Still.any) hS rfl ?_
      | (apply RO.op; apply OP.box hS; rfl; rfl; rfl; clear hS; intro b w1 hS)
      | (apply RO.op; apply OP.alloc hS; rfl; rfl; rfl; clear hS; intro b w1 hS)
      | (apply RO.op; apply OP.store hS; rfl; rfl; rfl; rfl; rfl; (focus ((repeat (first | apply Has.head | apply Take.head | apply Put.head | apply Has.tail | apply Take.tail | apply Put.tail)); done)); rfl; rfl; clear hS; intro w1 hS)
      | (apply RO.op; apply OP.buildSlice hS; rfl; rfl; (exact eqAuto); rfl; rfl; rfl; rfl; rfl; clear hS; intro b w1 hS)
      | (apply RO.op; apply OP.makeMap hS; rfl; clear hS; intro b w1 hS)
      | refine RO.yes rfl rfl ?_
      | refine RO.no rfl rfl rfl rfl ?_
      | refine RO.noUndef rfl rfl rfl ?_
      | refine RO.noNone rfl rfl rfl ?_
      | refine Run.cond_true rfl ?_
      | refine Run.cond_false rfl ?_
      | refine Run.skip ?_
      | refine Run.block ?_
      | refine Run.inBlock ?_
      | refine Run.exit rfl ?_
    refine Run.weaken (by focus ((repeat (first | exact .nil | refine .cons rfl ?_)); done)) (ih (i + 1) _ ⟨by omega, hS.picks (by focus ((repeat (first | apply Picks.all | apply Picks.nil | (refine Picks.cons (by repeat (first | apply Take.head | apply Take.tail)) ?_) | apply Picks.drop)); done))⟩ (by omega))
  · obtain rfl : i = made.length := by omega
    repeat' first
      | (apply RO.op; apply OP.callF; rfl; rfl; rfl; show Cl _ 9 _ _ _; exact rawake_calls hS; clear hS; rintro v w1 ⟨rfl, hS⟩)
      | (apply OP.callF; rfl; rfl; rfl; show Cl _ 9 _ _ _; exact rawake_calls hS; clear hS; rintro v w1 ⟨rfl, hS⟩; refine ⟨(by first | exact hS | exact hS.tail | exact hS.sublist (by repeat (first | exact List.Sublist.refl _ | refine .cons_cons _ ?_ | refine .cons _ ?_))), ?_⟩)
      | refine Run.seq ?_
      | refine Run.region ?_
      | (refine RO.split ?_ ?_ <;> intro hc <;> try (first | (exfalso; omega) | exact absurd rfl hc | exact Bool.noConfusion hc))
      | refine RO.nil ?_
      | refine RO.still (by exact Still.any) hS rfl ?_
      | (apply RO.op; apply OP.box hS; rfl; rfl; rfl; clear hS; intro b w1 hS)
      | (apply RO.op; apply OP.alloc hS; rfl; rfl; rfl; clear hS; intro b w1 hS)
      | (apply RO.op; apply OP.store hS; rfl; rfl; rfl; rfl; rfl; (focus ((repeat (first | apply Has.head | apply Take.head | apply Put.head | apply Has.tail | apply Take.tail | apply Put.tail)); done)); rfl; rfl; clear hS; intro w1 hS)
      | (apply RO.op; apply OP.buildSlice hS; rfl; rfl; (exact eqAuto); rfl; rfl; rfl; rfl; rfl; clear hS; intro b w1 hS)
      | (apply RO.op; apply OP.makeMap hS; rfl; clear hS; intro b w1 hS)
      | refine RO.yes rfl rfl ?_
      | refine RO.no rfl rfl rfl rfl ?_
      | refine RO.noUndef rfl rfl rfl ?_
      | refine RO.noNone rfl rfl rfl ?_
      | refine Run.cond_true rfl ?_
      | refine Run.cond_false rfl ?_
      | refine Run.skip ?_
      | refine Run.block ?_
      | refine Run.inBlock ?_
      | refine Run.exit rfl ?_
    refine Run.ret Try.func8 rfl (.tmp rfl .nil) ?_
    exact ⟨rfl, o1.back (o2.back (hS.picks (by focus ((repeat (first | apply Picks.all | apply Picks.nil | (refine Picks.cons (by repeat (first | apply Take.head | apply Take.tail)) ?_) | apply Picks.drop)); done))))⟩
end
end Go.Proofs.Ythejfodjielahaa
