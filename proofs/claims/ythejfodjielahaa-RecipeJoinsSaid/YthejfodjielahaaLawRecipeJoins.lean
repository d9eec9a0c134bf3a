/-
  A recipe in two parts makes what its parts make, one behind the other: undertonelaw04.RecipeJoins is true.
-/
import Derived.Test.YthejfodjielahaaLawRecipeCans
import Derived.Test.YthejfodjielahaaRecipeMore
import Derived.Test.YthejfodjielahaaRecipeApp
namespace Go.Proofs.Ythejfodjielahaa
set_option maxRecDepth 8000
set_option linter.unusedSimpArgs false
set_option linter.unusedVariables false
open Go Go.RowKit

section
variable {we w : World} {ρ : List (Nat × Obj)} {σ F : List HP} {p lim : Nat} {L : List Nd}

set_option maxHeartbeats 8000000 in
theorem recipeJoins_law {l : List Nd} {v : Value} {refs : List Int} {u : Value} {st : List Stp} {z : Value} {su : List Stp} {y : Value} (hl : Sl ρ ndL 5 v l) (hq : ∀ a ∈ l, 0 ≤ a.n ∧ a.n ≤ 18446744073709551615) (hr : Sl ρ intL 1 u refs) (hq2 : ∀ a ∈ refs, True) (hs : Sl ρ stpL 5 z st) (hq3 : ∀ a ∈ st, 0 ≤ a.n ∧ a.n ≤ 18446744073709551615) (hu : Sl ρ stpL 5 y su) (hq4 : ∀ a ∈ su, 0 ≤ a.n ∧ a.n ≤ 18446744073709551615) (hS : St we ρ σ w) :
    Cl Try.prog 6 [v, u, z, y] w fun v w' => v = .bool true ∧ St we ρ σ w' := by
  obtain ⟨sp1, cap1, rfl, hle1, hcm1, -⟩ := hl.val
  obtain ⟨sp2, cap2, rfl, hle2, hcm2, -⟩ := hr.val
  obtain ⟨sp3, cap3, rfl, hle3, hcm3, -⟩ := hs.val
  obtain ⟨sp4, cap4, rfl, hle4, hcm4, -⟩ := hu.val
  refine Run.calls4 (n := 120) Try.func6 rfl rfl rfl ?_
  by_cases h1 : l.length ≤ 30
  rotate_left
  · repeat' first
      | (apply RO.op; apply OP.callF; rfl; rfl; rfl; show Cl _ 9 _ _ _; exact rawake_calls hS; clear hS; rintro v w1 ⟨rfl, hS⟩)
      | (apply OP.callF; rfl; rfl; rfl; show Cl _ 9 _ _ _; exact rawake_calls hS; clear hS; rintro v w1 ⟨rfl, hS⟩; refine ⟨(by first | exact hS | exact hS.tail | exact hS.sublist (by repeat (first | exact List.Sublist.refl _ | refine .cons_cons _ ?_ | refine .cons _ ?_))), ?_⟩)
      | refine Run.seq ?_
      | refine Run.region ?_
      | (refine RO.split ?_ ?_ <;> intro hc <;> try (first | (exfalso; omega) | exact absurd rfl hc | exact Bool.noConfusion hc))
      | refine RO.nil ?_
      | refine RO.still (by exact Still.any) hS rfl ?_
      | (apply RO.op; apply OP.box hS; rfl; rfl; rfl; clear hS; intro b w1 hS)
      | (apply RO.op; apply OP.alloc hS; rfl; rfl; rfl; clear hS; intro b w1 hS)
      | (apply RO.op; apply OP.store hS; rfl; rfl; rfl; rfl; rfl; (focus ((repeat (first | apply Has.head | apply Take.head | apply Put.head | apply Has.tail | apply Take.tail | apply Put.tail)); done)); rfl; rfl; clear hS; intro w1 hS)
      | (apply RO.op; apply OP.buildSlice hS; rfl; rfl; (exact eqAuto); rfl; rfl; rfl; rfl; rfl; clear hS; intro b w1 hS)
      | (apply RO.op; apply OP.makeMap hS; rfl; clear hS; intro b w1 hS)
      | refine RO.yes rfl rfl ?_
      | refine RO.no rfl rfl rfl rfl ?_
      | refine RO.noUndef rfl rfl rfl ?_
      | refine RO.noNone rfl rfl rfl ?_
      | refine Run.cond_true rfl ?_
      | refine Run.cond_false rfl ?_
      | refine Run.skip ?_
      | refine Run.block ?_
      | refine Run.inBlock ?_
      | refine Run.exit rfl ?_
    all_goals
      refine Run.ret Try.func6 rfl (.tmp rfl .nil) ?_
      exact ⟨rfl, hS.picks (by focus ((repeat (first | apply Picks.all | apply Picks.nil | (refine Picks.cons (by repeat (first | apply Take.head | apply Take.tail)) ?_) | apply Picks.drop)); done))⟩
  by_cases h2 : refs.length ≤ 30
  rotate_left
  · repeat' first
      | (apply RO.op; apply OP.callF; rfl; rfl; rfl; show Cl _ 9 _ _ _; exact rawake_calls hS; clear hS; rintro v w1 ⟨rfl, hS⟩)
      | (apply OP.callF; rfl; rfl; rfl; show Cl _ 9 _ _ _; exact rawake_calls hS; clear hS; rintro v w1 ⟨rfl, hS⟩; refine ⟨(by first | exact hS | exact hS.tail | exact hS.sublist (by repeat (first | exact List.Sublist.refl _ | refine .cons_cons _ ?_ | refine .cons _ ?_))), ?_⟩)
      | refine Run.seq ?_
      | refine Run.region ?_
      | (refine RO.split ?_ ?_ <;> intro hc <;> try (first | (exfalso; omega) | exact absurd rfl hc | exact Bool.noConfusion hc))
      | refine RO.nil ?_
      | refine RO.still (by exact Still.any) hS rfl ?_
      | (apply RO.op; apply OP.box hS; rfl; rfl; rfl; clear hS; intro b w1 hS)
      | (apply RO.op; apply OP.alloc hS; rfl; rfl; rfl; clear hS; intro b w1 hS)
      | (apply RO.op; apply OP.store hS; rfl; rfl; rfl; rfl; rfl; (focus ((repeat (first | apply Has.head | apply Take.head | apply Put.head | apply Has.tail | apply Take.tail | apply Put.tail)); done)); rfl; rfl; clear hS; intro w1 hS)
      | (apply RO.op; apply OP.buildSlice hS; rfl; rfl; (exact eqAuto); rfl; rfl; rfl; rfl; rfl; clear hS; intro b w1 hS)
      | (apply RO.op; apply OP.makeMap hS; rfl; clear hS; intro b w1 hS)
      | refine RO.yes rfl rfl ?_
      | refine RO.no rfl rfl rfl rfl ?_
      | refine RO.noUndef rfl rfl rfl ?_
      | refine RO.noNone rfl rfl rfl ?_
      | refine Run.cond_true rfl ?_
      | refine Run.cond_false rfl ?_
      | refine Run.skip ?_
      | refine Run.block ?_
      | refine Run.inBlock ?_
      | refine Run.exit rfl ?_
    all_goals
      refine Run.ret Try.func6 rfl (.tmp rfl .nil) ?_
      exact ⟨rfl, hS.picks (by focus ((repeat (first | apply Picks.all | apply Picks.nil | (refine Picks.cons (by repeat (first | apply Take.head | apply Take.tail)) ?_) | apply Picks.drop)); done))⟩
  by_cases h3 : st.length ≤ 15
  rotate_left
  · repeat' first
      | (apply RO.op; apply OP.callF; rfl; rfl; rfl; show Cl _ 9 _ _ _; exact rawake_calls hS; clear hS; rintro v w1 ⟨rfl, hS⟩)
      | (apply OP.callF; rfl; rfl; rfl; show Cl _ 9 _ _ _; exact rawake_calls hS; clear hS; rintro v w1 ⟨rfl, hS⟩; refine ⟨(by first | exact hS | exact hS.tail | exact hS.sublist (by repeat (first | exact List.Sublist.refl _ | refine .cons_cons _ ?_ | refine .cons _ ?_))), ?_⟩)
      | refine Run.seq ?_
      | refine Run.region ?_
      | (refine RO.split ?_ ?_ <;> intro hc <;> try (first | (exfalso; omega) | exact absurd rfl hc | exact Bool.noConfusion hc))
      | refine RO.nil ?_
      | refine RO.still (by exact Still.any) hS rfl ?_
      | (apply RO.op; apply OP.box hS; rfl; rfl; rfl; clear hS; intro b w1 hS)
      | (apply RO.op; apply OP.alloc hS; rfl; rfl; rfl; clear hS; intro b w1 hS)
      | (apply RO.op; apply OP.store hS; rfl; rfl; rfl; rfl; rfl; (focus ((repeat (first | apply Has.head | apply Take.head | apply Put.head | apply Has.tail | apply Take.tail | apply Put.tail)); done)); rfl; rfl; clear hS; intro w1 hS)
      | (apply RO.op; apply OP.buildSlice hS; rfl; rfl; (exact eqAuto); rfl; rfl; rfl; rfl; rfl; clear hS; intro b w1 hS)
      | (apply RO.op; apply OP.makeMap hS; rfl; clear hS; intro b w1 hS)
      | refine RO.yes rfl rfl ?_
      | refine RO.no rfl rfl rfl rfl ?_
      | refine RO.noUndef rfl rfl rfl ?_
      | refine RO.noNone rfl rfl rfl ?_
      | refine Run.cond_true rfl ?_
      | refine Run.cond_false rfl ?_
      | refine Run.skip ?_
      | refine Run.block ?_
      | refine Run.inBlock ?_
      | refine Run.exit rfl ?_
    all_goals
      refine Run.ret Try.func6 rfl (.tmp rfl .nil) ?_
      exact ⟨rfl, hS.picks (by focus ((repeat (first | apply Picks.all | apply Picks.nil | (refine Picks.cons (by repeat (first | apply Take.head | apply Take.tail)) ?_) | apply Picks.drop)); done))⟩
  by_cases h4 : su.length ≤ 15
  rotate_left
  · repeat' first
      | (apply RO.op; apply OP.callF; rfl; rfl; rfl; show Cl _ 9 _ _ _; exact rawake_calls hS; clear hS; rintro v w1 ⟨rfl, hS⟩)
      | (apply OP.callF; rfl; rfl; rfl; show Cl _ 9 _ _ _; exact rawake_calls hS; clear hS; rintro v w1 ⟨rfl, hS⟩; refine ⟨(by first | exact hS | exact hS.tail | exact hS.sublist (by repeat (first | exact List.Sublist.refl _ | refine .cons_cons _ ?_ | refine .cons _ ?_))), ?_⟩)
      | refine Run.seq ?_
      | refine Run.region ?_
      | (refine RO.split ?_ ?_ <;> intro hc <;> try (first | (exfalso; omega) | exact absurd rfl hc | exact Bool.noConfusion hc))
      | refine RO.nil ?_
      | refine RO.still (by exact Still.any) hS rfl ?_
      | (apply RO.op; apply OP.box hS; rfl; rfl; rfl; clear hS; intro b w1 hS)
      | (apply RO.op; apply OP.alloc hS; rfl; rfl; rfl; clear hS; intro b w1 hS)
      | (apply RO.op; apply OP.store hS; rfl; rfl; rfl; rfl; rfl; (focus ((repeat (first | apply Has.head | apply Take.head | apply Put.head | apply Has.tail | apply Take.tail | apply Put.tail)); done)); rfl; rfl; clear hS; intro w1 hS)
      | (apply RO.op; apply OP.buildSlice hS; rfl; rfl; (exact eqAuto); rfl; rfl; rfl; rfl; rfl; clear hS; intro b w1 hS)
      | (apply RO.op; apply OP.makeMap hS; rfl; clear hS; intro b w1 hS)
      | refine RO.yes rfl rfl ?_
      | refine RO.no rfl rfl rfl rfl ?_
      | refine RO.noUndef rfl rfl rfl ?_
      | refine RO.noNone rfl rfl rfl ?_
      | refine Run.cond_true rfl ?_
      | refine Run.cond_false rfl ?_
      | refine Run.skip ?_
      | refine Run.block ?_
      | refine Run.inBlock ?_
      | refine Run.exit rfl ?_
    all_goals
      refine Run.ret Try.func6 rfl (.tmp rfl .nil) ?_
      exact ⟨rfl, hS.picks (by focus ((repeat (first | apply Picks.all | apply Picks.nil | (refine Picks.cons (by repeat (first | apply Take.head | apply Take.tail)) ?_) | apply Picks.drop)); done))⟩
  have h40 : l.length ≤ 40 := by omega
  have g := builtUp_good (limit := 300) l
  have hh := learnAll_has g (K := fun _ => false) (by simp) refs
  have hclo := learnAll_closed (L := builtUp (room 300) l) refs
  have hkn := heard_knows (L := builtUp (room 300) l) (refs := refs)
  have hflen : (refs.filter (has (builtUp (room 300) l))).length ≤ 200000 := by
    have := List.length_filter_le (has (builtUp (room 300) l)) refs
    omega
  have hrt := builtUp_rt (limit := 300) l
  generalize hL : builtUp (room 300) l = L at g hh hclo hflen hkn hrt
  generalize hK : learnAll L refs (fun _ => false) = K at hh hclo hkn
  have hlim := g.lim
  have hlen := g.len
  generalize hhd : refs.filter (has L) = heard at hflen hkn
  have hkit : ∀ {w : World} {σ : List HP}, St we ρ σ w → _ := fun {w σ} hS => kitchen_calls (w := w) (σ := σ) h40 h2 hl hr hL hK hS
  simp only [hhd] at hkit
  have hah : AllHas L heard := fun x hx => hh x (hkn x hx)
  obtain ⟨g2, M, hM⟩ := runS_ext (heard := heard) st L [] 0 g hah (fun x hx => by cases hx)
  have hR2 := runS_again (heard := heard) st L [] 0 g hah (fun x hx => by cases hx)
  have hmd := runS_made (lim := room 300) (heard := heard) st L [] 0
  have hrun : ∀ {w : World} {kb p : Nat} {F : List HP}, St we ρ (KN kb p heard K :: Arena p (room 300) L :: F) w → _ := fun {w kb p F} hS =>
    run_calls (w := w) (kb := kb) (p := p) (F := F) g hs hq3 (by omega) hflen hah hS
  obtain ⟨L2, made, at2, e, hR⟩ : ∃ L2 made at2 e, runS (room 300) heard st L [] 0 = (L2, made, at2, e) := ⟨_, _, _, _, rfl⟩
  simp only [hR] at hrun g2 hM hR2 hmd
  have hJ := runS_append (lim := room 300) (heard := heard) st su L2 [] 0
  simp only [hR2, Nat.zero_add] at hJ
  have hrun2 : ∀ {ρ : List (Nat × Obj)} {x : Value} {w : World} {kb p : Nat} {F : List HP}, Sl ρ stpL 5 x (st ++ su) → St we ρ (KN kb p heard K :: Arena p (room 300) L2 :: F) w → _ := fun {ρ x w kb p F} hs hS =>
    run_calls (w := w) (kb := kb) (p := p) (F := F) g2 hs (fun s hs => (List.mem_append.1 hs).elim (hq3 s) (hq4 s)) (by rw [List.length_append]; omega) hflen (by rw [hM]; exact allHas_ext hah) hS
  by_cases he : e = 0
  rotate_left
  · rw [if_neg he] at hJ
    have hm0 : made.length = 0 := by rw [(hmd.2 he).1]; rfl
    simp only [hJ] at hrun2
    repeat' first
      | (apply RO.op; apply OP.callF; rfl; rfl; rfl; show Cl _ 10 _ _ _; exact hkit hS; clear hS; rintro v w1 ⟨kb, p, r, c, rfl, hS⟩)
      | (apply OP.callF; rfl; rfl; rfl; show Cl _ 10 _ _ _; exact hkit hS; clear hS; rintro v w1 ⟨kb, p, r, c, rfl, hS⟩; refine ⟨(by first | exact hS | exact hS.tail | exact hS.sublist (by repeat (first | exact List.Sublist.refl _ | refine .cons_cons _ ?_ | refine .cons _ ?_))), ?_⟩)
      | (apply RO.op; apply OP.callF; rfl; rfl; rfl; show Cl _ 11 _ _ _; exact hrun (hS.take2 (by focus ((repeat (first | apply Has.head | apply Take.head | apply Put.head | apply Has.tail | apply Take.tail | apply Put.tail)); done)) (by focus ((repeat (first | apply Has.head | apply Take.head | apply Put.head | apply Has.tail | apply Take.tail | apply Put.tail)); done))); clear hS; rintro v w1 ⟨mv, rfl, hS⟩; obtain ⟨ρ1, o1, s1, hT⟩ := vec_freeze intL_length hS; obtain ⟨sp5, cap5, rfl, hle5, hcm5, -⟩ := s1.val; clear hS; have hS := hT; clear hT; have hs1 := hs.mono o1.sub; have hu1 := hu.mono o1.sub)
      | (apply OP.callF; rfl; rfl; rfl; show Cl _ 11 _ _ _; exact hrun (hS.take2 (by focus ((repeat (first | apply Has.head | apply Take.head | apply Put.head | apply Has.tail | apply Take.tail | apply Put.tail)); done)) (by focus ((repeat (first | apply Has.head | apply Take.head | apply Put.head | apply Has.tail | apply Take.tail | apply Put.tail)); done))); clear hS; rintro v w1 ⟨mv, rfl, hS⟩; obtain ⟨ρ1, o1, s1, hT⟩ := vec_freeze intL_length hS; obtain ⟨sp5, cap5, rfl, hle5, hcm5, -⟩ := s1.val; clear hS; have hS := hT; clear hT; have hs1 := hs.mono o1.sub; have hu1 := hu.mono o1.sub; refine ⟨(by first | exact hS | exact hS.tail | exact hS.sublist (by repeat (first | exact List.Sublist.refl _ | refine .cons_cons _ ?_ | refine .cons _ ?_))), ?_⟩)
      | (apply RO.op; apply OP.appendSl (m := 0) (xs := []) (bytes := 40) (vec_shut (size := 5) (xs := []) (l := []) (cap := 0) hS (Nat.le_refl _) (Nat.zero_le _) rfl rfl) hs1 stpL_length stpL_one; rfl; rfl; rfl; rfl; rfl; rfl; rfl; rfl; exact (by omega); exact .head; (exact (by unfold maxLen; omega)); (exact (by omega)); rfl
         clear hS; intro vj w1 hS; rw [Nat.zero_add, List.nil_append] at hS)
      | (apply RO.op; apply OP.appendSl (bytes := 40) hS hu1 stpL_length stpL_one; rfl; rfl; rfl; rfl; rfl; rfl; rfl; rfl; exact (by omega); exact .head; (exact (by unfold maxLen; omega)); (exact (by omega)); rfl
         clear hS; intro vk w1 hS; rw [← List.length_append, ← List.flatMap_append] at hS; obtain ⟨ρ2, o2, s2, hT⟩ := vec_freeze stpL_length hS; clear hS; have hS := hT; clear hT; have s1' := s1.mono o2.sub)
      | (apply RO.op; apply OP.callF; rfl; rfl; rfl; show Cl _ 11 _ _ _; exact hrun2 s2 (hS.take2 (by focus ((repeat (first | apply Has.head | apply Take.head | apply Put.head | apply Has.tail | apply Take.tail | apply Put.tail)); done)) (by focus ((repeat (first | apply Has.head | apply Take.head | apply Put.head | apply Has.tail | apply Take.tail | apply Put.tail)); done))); clear hS; rintro v w1 ⟨mw, rfl, hS⟩; obtain ⟨ρ3, o3, s3, hT⟩ := vec_freeze intL_length hS; obtain ⟨sp6, cap6, rfl, hle6, hcm6, -⟩ := s3.val; clear hS; have hS := hT; clear hT; have s1'' := s1'.mono o3.sub)
      | (apply OP.callF; rfl; rfl; rfl; show Cl _ 11 _ _ _; exact hrun2 s2 (hS.take2 (by focus ((repeat (first | apply Has.head | apply Take.head | apply Put.head | apply Has.tail | apply Take.tail | apply Put.tail)); done)) (by focus ((repeat (first | apply Has.head | apply Take.head | apply Put.head | apply Has.tail | apply Take.tail | apply Put.tail)); done))); clear hS; rintro v w1 ⟨mw, rfl, hS⟩; obtain ⟨ρ3, o3, s3, hT⟩ := vec_freeze intL_length hS; obtain ⟨sp6, cap6, rfl, hle6, hcm6, -⟩ := s3.val; clear hS; have hS := hT; clear hT; have s1'' := s1'.mono o3.sub; refine ⟨(by first | exact hS | exact hS.tail | exact hS.sublist (by repeat (first | exact List.Sublist.refl _ | refine .cons_cons _ ?_ | refine .cons _ ?_))), ?_⟩)
      | (apply RO.op; apply OP.callF; rfl; rfl; rfl; show Cl _ 9 _ _ _; exact rawake_calls hS; clear hS; rintro v w1 ⟨rfl, hS⟩)
      | (apply OP.callF; rfl; rfl; rfl; show Cl _ 9 _ _ _; exact rawake_calls hS; clear hS; rintro v w1 ⟨rfl, hS⟩; refine ⟨(by first | exact hS | exact hS.tail | exact hS.sublist (by repeat (first | exact List.Sublist.refl _ | refine .cons_cons _ ?_ | refine .cons _ ?_))), ?_⟩)
      | refine Run.seq ?_
      | refine Run.region ?_
      | (refine RO.split ?_ ?_ <;> intro hc <;> try (first | (exfalso; omega) | exact absurd rfl hc | exact Bool.noConfusion hc))
      | refine RO.nil ?_
      | refine RO.still (by exact Still.any) hS rfl ?_
      | (apply RO.op; apply OP.box hS; rfl; rfl; rfl; clear hS; intro b w1 hS)
      | (apply RO.op; apply OP.alloc hS; rfl; rfl; rfl; clear hS; intro b w1 hS)
      | (apply RO.op; apply OP.store hS; rfl; rfl; rfl; rfl; rfl; (focus ((repeat (first | apply Has.head | apply Take.head | apply Put.head | apply Has.tail | apply Take.tail | apply Put.tail)); done)); rfl; rfl; clear hS; intro w1 hS)
      | (apply RO.op; apply OP.buildSlice hS; rfl; rfl; (exact eqAuto); rfl; rfl; rfl; rfl; rfl; clear hS; intro b w1 hS)
      | (apply RO.op; apply OP.makeMap hS; rfl; clear hS; intro b w1 hS)
      | refine RO.yes rfl rfl ?_
      | refine RO.no rfl rfl rfl rfl ?_
      | refine RO.noUndef rfl rfl rfl ?_
      | refine RO.noNone rfl rfl rfl ?_
      | refine Run.cond_true rfl ?_
      | refine Run.cond_false rfl ?_
      | refine Run.skip ?_
      | refine Run.block ?_
      | refine Run.inBlock ?_
      | refine Run.exit rfl ?_
    all_goals
      refine Run.ret Try.func6 rfl (.tmp rfl .nil) ?_
      exact ⟨rfl, o1.back (o2.back (o3.back (hS.picks (by focus ((repeat (first | apply Picks.all | apply Picks.nil | (refine Picks.cons (by repeat (first | apply Take.head | apply Take.tail)) ?_) | apply Picks.drop)); done)))))⟩
  subst he
  rw [if_pos rfl] at hJ
  have hml : made.length = st.length := by
    obtain ⟨M, e1, e2⟩ := hmd.1 rfl
    rw [e1]; simpa using e2
  have hmd2 := runS_made (lim := room 300) (heard := heard) su L2 made st.length
  obtain ⟨L3, all, at3, f, hR3⟩ : ∃ L3 all at3 f, runS (room 300) heard su L2 made st.length = (L3, all, at3, f) := ⟨_, _, _, _, rfl⟩
  rw [hR3] at hJ hmd2
  simp only at hmd2
  simp only [hJ] at hrun2
  by_cases hf : f = 0
  rotate_left
  · have hm0 : all.length = 0 := by rw [(hmd2.2 hf).1]; rfl
    have hat := (hmd2.2 hf).2
    repeat' first
      | (apply RO.op; apply OP.callF; rfl; rfl; rfl; show Cl _ 10 _ _ _; exact hkit hS; clear hS; rintro v w1 ⟨kb, p, r, c, rfl, hS⟩)
      | (apply OP.callF; rfl; rfl; rfl; show Cl _ 10 _ _ _; exact hkit hS; clear hS; rintro v w1 ⟨kb, p, r, c, rfl, hS⟩; refine ⟨(by first | exact hS | exact hS.tail | exact hS.sublist (by repeat (first | exact List.Sublist.refl _ | refine .cons_cons _ ?_ | refine .cons _ ?_))), ?_⟩)
      | (apply RO.op; apply OP.callF; rfl; rfl; rfl; show Cl _ 11 _ _ _; exact hrun (hS.take2 (by focus ((repeat (first | apply Has.head | apply Take.head | apply Put.head | apply Has.tail | apply Take.tail | apply Put.tail)); done)) (by focus ((repeat (first | apply Has.head | apply Take.head | apply Put.head | apply Has.tail | apply Take.tail | apply Put.tail)); done))); clear hS; rintro v w1 ⟨mv, rfl, hS⟩; obtain ⟨ρ1, o1, s1, hT⟩ := vec_freeze intL_length hS; obtain ⟨sp5, cap5, rfl, hle5, hcm5, -⟩ := s1.val; clear hS; have hS := hT; clear hT; have hs1 := hs.mono o1.sub; have hu1 := hu.mono o1.sub)
      | (apply OP.callF; rfl; rfl; rfl; show Cl _ 11 _ _ _; exact hrun (hS.take2 (by focus ((repeat (first | apply Has.head | apply Take.head | apply Put.head | apply Has.tail | apply Take.tail | apply Put.tail)); done)) (by focus ((repeat (first | apply Has.head | apply Take.head | apply Put.head | apply Has.tail | apply Take.tail | apply Put.tail)); done))); clear hS; rintro v w1 ⟨mv, rfl, hS⟩; obtain ⟨ρ1, o1, s1, hT⟩ := vec_freeze intL_length hS; obtain ⟨sp5, cap5, rfl, hle5, hcm5, -⟩ := s1.val; clear hS; have hS := hT; clear hT; have hs1 := hs.mono o1.sub; have hu1 := hu.mono o1.sub; refine ⟨(by first | exact hS | exact hS.tail | exact hS.sublist (by repeat (first | exact List.Sublist.refl _ | refine .cons_cons _ ?_ | refine .cons _ ?_))), ?_⟩)
      | (apply RO.op; apply OP.appendSl (m := 0) (xs := []) (bytes := 40) (vec_shut (size := 5) (xs := []) (l := []) (cap := 0) hS (Nat.le_refl _) (Nat.zero_le _) rfl rfl) hs1 stpL_length stpL_one; rfl; rfl; rfl; rfl; rfl; rfl; rfl; rfl; exact (by omega); exact .head; (exact (by unfold maxLen; omega)); (exact (by omega)); rfl
         clear hS; intro vj w1 hS; rw [Nat.zero_add, List.nil_append] at hS)
      | (apply RO.op; apply OP.appendSl (bytes := 40) hS hu1 stpL_length stpL_one; rfl; rfl; rfl; rfl; rfl; rfl; rfl; rfl; exact (by omega); exact .head; (exact (by unfold maxLen; omega)); (exact (by omega)); rfl
         clear hS; intro vk w1 hS; rw [← List.length_append, ← List.flatMap_append] at hS; obtain ⟨ρ2, o2, s2, hT⟩ := vec_freeze stpL_length hS; clear hS; have hS := hT; clear hT; have s1' := s1.mono o2.sub)
      | (apply RO.op; apply OP.callF; rfl; rfl; rfl; show Cl _ 11 _ _ _; exact hrun2 s2 (hS.take2 (by focus ((repeat (first | apply Has.head | apply Take.head | apply Put.head | apply Has.tail | apply Take.tail | apply Put.tail)); done)) (by focus ((repeat (first | apply Has.head | apply Take.head | apply Put.head | apply Has.tail | apply Take.tail | apply Put.tail)); done))); clear hS; rintro v w1 ⟨mw, rfl, hS⟩; obtain ⟨ρ3, o3, s3, hT⟩ := vec_freeze intL_length hS; obtain ⟨sp6, cap6, rfl, hle6, hcm6, -⟩ := s3.val; clear hS; have hS := hT; clear hT; have s1'' := s1'.mono o3.sub)
      | (apply OP.callF; rfl; rfl; rfl; show Cl _ 11 _ _ _; exact hrun2 s2 (hS.take2 (by focus ((repeat (first | apply Has.head | apply Take.head | apply Put.head | apply Has.tail | apply Take.tail | apply Put.tail)); done)) (by focus ((repeat (first | apply Has.head | apply Take.head | apply Put.head | apply Has.tail | apply Take.tail | apply Put.tail)); done))); clear hS; rintro v w1 ⟨mw, rfl, hS⟩; obtain ⟨ρ3, o3, s3, hT⟩ := vec_freeze intL_length hS; obtain ⟨sp6, cap6, rfl, hle6, hcm6, -⟩ := s3.val; clear hS; have hS := hT; clear hT; have s1'' := s1'.mono o3.sub; refine ⟨(by first | exact hS | exact hS.tail | exact hS.sublist (by repeat (first | exact List.Sublist.refl _ | refine .cons_cons _ ?_ | refine .cons _ ?_))), ?_⟩)
      | (apply RO.op; apply OP.callF; rfl; rfl; rfl; show Cl _ 9 _ _ _; exact rawake_calls hS; clear hS; rintro v w1 ⟨rfl, hS⟩)
      | (apply OP.callF; rfl; rfl; rfl; show Cl _ 9 _ _ _; exact rawake_calls hS; clear hS; rintro v w1 ⟨rfl, hS⟩; refine ⟨(by first | exact hS | exact hS.tail | exact hS.sublist (by repeat (first | exact List.Sublist.refl _ | refine .cons_cons _ ?_ | refine .cons _ ?_))), ?_⟩)
      | refine Run.seq ?_
      | refine Run.region ?_
      | (refine RO.split ?_ ?_ <;> intro hc <;> try (first | (exfalso; omega) | exact absurd rfl hc | exact Bool.noConfusion hc))
      | refine RO.nil ?_
      | refine RO.still (by exact Still.any) hS rfl ?_
      | (apply RO.op; apply OP.box hS; rfl; rfl; rfl; clear hS; intro b w1 hS)
      | (apply RO.op; apply OP.alloc hS; rfl; rfl; rfl; clear hS; intro b w1 hS)
      | (apply RO.op; apply OP.store hS; rfl; rfl; rfl; rfl; rfl; (focus ((repeat (first | apply Has.head | apply Take.head | apply Put.head | apply Has.tail | apply Take.tail | apply Put.tail)); done)); rfl; rfl; clear hS; intro w1 hS)
      | (apply RO.op; apply OP.buildSlice hS; rfl; rfl; (exact eqAuto); rfl; rfl; rfl; rfl; rfl; clear hS; intro b w1 hS)
      | (apply RO.op; apply OP.makeMap hS; rfl; clear hS; intro b w1 hS)
      | refine RO.yes rfl rfl ?_
      | refine RO.no rfl rfl rfl rfl ?_
      | refine RO.noUndef rfl rfl rfl ?_
      | refine RO.noNone rfl rfl rfl ?_
      | refine Run.cond_true rfl ?_
      | refine Run.cond_false rfl ?_
      | refine Run.skip ?_
      | refine Run.block ?_
      | refine Run.inBlock ?_
      | refine Run.exit rfl ?_
    all_goals
      refine Run.ret Try.func6 rfl (.tmp rfl .nil) ?_
      exact ⟨rfl, o1.back (o2.back (o3.back (hS.picks (by focus ((repeat (first | apply Picks.all | apply Picks.nil | (refine Picks.cons (by repeat (first | apply Take.head | apply Take.tail)) ?_) | apply Picks.drop)); done)))))⟩
  subst hf
  obtain ⟨N, hN, hNl⟩ := hmd2.1 rfl
  have hal : all.length = st.length + su.length := by rw [hN, List.length_append, hml, hNl]
  repeat' first
    | (apply RO.op; apply OP.callF; rfl; rfl; rfl; show Cl _ 10 _ _ _; exact hkit hS; clear hS; rintro v w1 ⟨kb, p, r, c, rfl, hS⟩)
    | (apply OP.callF; rfl; rfl; rfl; show Cl _ 10 _ _ _; exact hkit hS; clear hS; rintro v w1 ⟨kb, p, r, c, rfl, hS⟩; refine ⟨(by first | exact hS | exact hS.tail | exact hS.sublist (by repeat (first | exact List.Sublist.refl _ | refine .cons_cons _ ?_ | refine .cons _ ?_))), ?_⟩)
    | (apply RO.op; apply OP.callF; rfl; rfl; rfl; show Cl _ 11 _ _ _; exact hrun (hS.take2 (by focus ((repeat (first | apply Has.head | apply Take.head | apply Put.head | apply Has.tail | apply Take.tail | apply Put.tail)); done)) (by focus ((repeat (first | apply Has.head | apply Take.head | apply Put.head | apply Has.tail | apply Take.tail | apply Put.tail)); done))); clear hS; rintro v w1 ⟨mv, rfl, hS⟩; obtain ⟨ρ1, o1, s1, hT⟩ := vec_freeze intL_length hS; obtain ⟨sp5, cap5, rfl, hle5, hcm5, -⟩ := s1.val; clear hS; have hS := hT; clear hT; have hs1 := hs.mono o1.sub; have hu1 := hu.mono o1.sub)
    | (apply OP.callF; rfl; rfl; rfl; show Cl _ 11 _ _ _; exact hrun (hS.take2 (by focus ((repeat (first | apply Has.head | apply Take.head | apply Put.head | apply Has.tail | apply Take.tail | apply Put.tail)); done)) (by focus ((repeat (first | apply Has.head | apply Take.head | apply Put.head | apply Has.tail | apply Take.tail | apply Put.tail)); done))); clear hS; rintro v w1 ⟨mv, rfl, hS⟩; obtain ⟨ρ1, o1, s1, hT⟩ := vec_freeze intL_length hS; obtain ⟨sp5, cap5, rfl, hle5, hcm5, -⟩ := s1.val; clear hS; have hS := hT; clear hT; have hs1 := hs.mono o1.sub; have hu1 := hu.mono o1.sub; refine ⟨(by first | exact hS | exact hS.tail | exact hS.sublist (by repeat (first | exact List.Sublist.refl _ | refine .cons_cons _ ?_ | refine .cons _ ?_))), ?_⟩)
    | (apply RO.op; apply OP.appendSl (m := 0) (xs := []) (bytes := 40) (vec_shut (size := 5) (xs := []) (l := []) (cap := 0) hS (Nat.le_refl _) (Nat.zero_le _) rfl rfl) hs1 stpL_length stpL_one; rfl; rfl; rfl; rfl; rfl; rfl; rfl; rfl; exact (by omega); exact .head; (exact (by unfold maxLen; omega)); (exact (by omega)); rfl
       clear hS; intro vj w1 hS; rw [Nat.zero_add, List.nil_append] at hS)
    | (apply RO.op; apply OP.appendSl (bytes := 40) hS hu1 stpL_length stpL_one; rfl; rfl; rfl; rfl; rfl; rfl; rfl; rfl; exact (by omega); exact .head; (exact (by unfold maxLen; omega)); (exact (by omega)); rfl
       clear hS; intro vk w1 hS; rw [← List.length_append, ← List.flatMap_append] at hS; obtain ⟨ρ2, o2, s2, hT⟩ := vec_freeze stpL_length hS; clear hS; have hS := hT; clear hT; have s1' := s1.mono o2.sub)
    | (apply RO.op; apply OP.callF; rfl; rfl; rfl; show Cl _ 11 _ _ _; exact hrun2 s2 (hS.take2 (by focus ((repeat (first | apply Has.head | apply Take.head | apply Put.head | apply Has.tail | apply Take.tail | apply Put.tail)); done)) (by focus ((repeat (first | apply Has.head | apply Take.head | apply Put.head | apply Has.tail | apply Take.tail | apply Put.tail)); done))); clear hS; rintro v w1 ⟨mw, rfl, hS⟩; obtain ⟨ρ3, o3, s3, hT⟩ := vec_freeze intL_length hS; obtain ⟨sp6, cap6, rfl, hle6, hcm6, -⟩ := s3.val; clear hS; have hS := hT; clear hT; have s1'' := s1'.mono o3.sub)
    | (apply OP.callF; rfl; rfl; rfl; show Cl _ 11 _ _ _; exact hrun2 s2 (hS.take2 (by focus ((repeat (first | apply Has.head | apply Take.head | apply Put.head | apply Has.tail | apply Take.tail | apply Put.tail)); done)) (by focus ((repeat (first | apply Has.head | apply Take.head | apply Put.head | apply Has.tail | apply Take.tail | apply Put.tail)); done))); clear hS; rintro v w1 ⟨mw, rfl, hS⟩; obtain ⟨ρ3, o3, s3, hT⟩ := vec_freeze intL_length hS; obtain ⟨sp6, cap6, rfl, hle6, hcm6, -⟩ := s3.val; clear hS; have hS := hT; clear hT; have s1'' := s1'.mono o3.sub; refine ⟨(by first | exact hS | exact hS.tail | exact hS.sublist (by repeat (first | exact List.Sublist.refl _ | refine .cons_cons _ ?_ | refine .cons _ ?_))), ?_⟩)
    | refine Run.seq ?_
    | refine Run.region ?_
    | (refine RO.split ?_ ?_ <;> intro hc <;> try (first | (exfalso; omega) | exact absurd rfl hc | exact Bool.noConfusion hc))
    | refine RO.nil ?_
    | refine RO.still (by exact Still.any) hS rfl ?_
    | (apply RO.op; apply OP.box hS; rfl; rfl; rfl; clear hS; intro b w1 hS)
    | (apply RO.op; apply OP.alloc hS; rfl; rfl; rfl; clear hS; intro b w1 hS)
    | (apply RO.op; apply OP.store hS; rfl; rfl; rfl; rfl; rfl; (focus ((repeat (first | apply Has.head | apply Take.head | apply Put.head | apply Has.tail | apply Take.tail | apply Put.tail)); done)); rfl; rfl; clear hS; intro w1 hS)
    | (apply RO.op; apply OP.buildSlice hS; rfl; rfl; (exact eqAuto); rfl; rfl; rfl; rfl; rfl; clear hS; intro b w1 hS)
    | (apply RO.op; apply OP.makeMap hS; rfl; clear hS; intro b w1 hS)
    | refine RO.yes rfl rfl ?_
    | refine RO.no rfl rfl rfl rfl ?_
    | refine RO.noUndef rfl rfl rfl ?_
    | refine RO.noNone rfl rfl rfl ?_
    | refine Run.cond_true rfl ?_
    | refine Run.cond_false rfl ?_
    | refine Run.skip ?_
    | refine Run.block ?_
    | refine Run.inBlock ?_
    | refine Run.exit rfl ?_
  refine Run.while (fun i : Nat => [(2, .slice sp3 st.length cap3), (3, .slice sp4 su.length cap4), (12, .slice sp5 made.length cap5), (15, .slice sp6 all.length cap6), (95, .int .i64 made.length), (96, .int .i64 i)])
    (fun i w => i ≤ made.length ∧ St we ρ3 σ w) (fun i => made.length - i) 0
    ⟨by omega, hS.picks (by focus ((repeat (first | apply Picks.all | apply Picks.nil | (refine Picks.cons (by repeat (first | apply Take.head | apply Take.tail)) ?_) | apply Picks.drop)); done))⟩ (by focus ((repeat (first | exact .nil | refine .cons rfl ?_)); done)) ?_
  clear hS
  rintro i w ⟨hi, hS⟩ ih
  by_cases hlt : i < made.length
  · obtain ⟨b1, oo1, cs1, e1, f1, rfl, m1, hx1⟩ := s1''.int hlt
    have hlt2 : i < all.length := by omega
    obtain ⟨b2, oo2, cs2, e2, f2, rfl, m2, hx2⟩ := s3.int hlt2
    have hsame : all[i] = made[i] := by
      subst hN
      exact List.getElem_append_left hlt
    rw [hsame] at hx2
    repeat' first
      | (refine Run.regionQ_of hS (by rfl) (by kernel_rfl) ?_; clear hS)
      | (refine RQ.still (by apply Still.load; rfl; rfl; exact Rd.ro m1; exact hx1) rfl ?_)
      | (refine RQ.still (by apply Still.load; rfl; rfl; exact Rd.ro m2; exact hx2) rfl ?_)
      | (refine RQ.split ?_ ?_ <;> intro hc <;> try (first | (exfalso; omega) | exact absurd rfl hc | exact Bool.noConfusion hc))
      | (refine RQ.nil ?_; (try clear hS); intro w1 hS)
      | refine RQ.still (by exact Still.any) rfl ?_
      | refine RQ.yes rfl rfl ?_
      | refine RQ.no rfl rfl rfl rfl ?_
      | refine RQ.noUndef rfl rfl rfl ?_
      | refine Run.seq ?_
      | refine Run.region ?_
      | (refine RO.split ?_ ?_ <;> intro hc <;> try (first | (exfalso; omega) | exact absurd rfl hc | exact Bool.noConfusion hc))
      | refine RO.nil ?_
      | refine RO.still (by exact Still.any) hS rfl ?_
      | (apply RO.op; apply OP.box hS; rfl; rfl; rfl; clear hS; intro b w1 hS)
      | (apply RO.op; apply OP.alloc hS; rfl; rfl; rfl; clear hS; intro b w1 hS)
      | (apply RO.op; apply OP.store hS; rfl; rfl; rfl; rfl; rfl; (focus ((repeat (first | apply Has.head | apply Take.head | apply Put.head | apply Has.tail | apply Take.tail | apply Put.tail)); done)); rfl; rfl; clear hS; intro w1 hS)
      | (apply RO.op; apply OP.buildSlice hS; rfl; rfl; (exact eqAuto); rfl; rfl; rfl; rfl; rfl; clear hS; intro b w1 hS)
      | (apply RO.op; apply OP.makeMap hS; rfl; clear hS; intro b w1 hS)
      | refine RO.yes rfl rfl ?_
      | refine RO.no rfl rfl rfl rfl ?_
      | refine RO.noUndef rfl rfl rfl ?_
      | refine RO.noNone rfl rfl rfl ?_
      | refine Run.cond_true rfl ?_
      | refine Run.cond_false rfl ?_
      | refine Run.skip ?_
      | refine Run.block ?_
      | refine Run.inBlock ?_
      | refine Run.exit rfl ?_
    refine Run.weaken (by focus ((repeat (first | exact .nil | refine .cons rfl ?_)); done)) (ih (i + 1) _ ⟨by omega, hS.picks (by focus ((repeat (first | apply Picks.all | apply Picks.nil | (refine Picks.cons (by repeat (first | apply Take.head | apply Take.tail)) ?_) | apply Picks.drop)); done))⟩ (by omega))
  · obtain rfl : i = made.length := by omega
    repeat' first
      | (apply RO.op; apply OP.callF; rfl; rfl; rfl; show Cl _ 9 _ _ _; exact rawake_calls hS; clear hS; rintro v w1 ⟨rfl, hS⟩)
      | (apply OP.callF; rfl; rfl; rfl; show Cl _ 9 _ _ _; exact rawake_calls hS; clear hS; rintro v w1 ⟨rfl, hS⟩; refine ⟨(by first | exact hS | exact hS.tail | exact hS.sublist (by repeat (first | exact List.Sublist.refl _ | refine .cons_cons _ ?_ | refine .cons _ ?_))), ?_⟩)
      | refine Run.seq ?_
      | refine Run.region ?_
      | (refine RO.split ?_ ?_ <;> intro hc <;> try (first | (exfalso; omega) | exact absurd rfl hc | exact Bool.noConfusion hc))
      | refine RO.nil ?_
      | refine RO.still (by exact Still.any) hS rfl ?_
      | (apply RO.op; apply OP.box hS; rfl; rfl; rfl; clear hS; intro b w1 hS)
      | (apply RO.op; apply OP.alloc hS; rfl; rfl; rfl; clear hS; intro b w1 hS)
      | (apply RO.op; apply OP.store hS; rfl; rfl; rfl; rfl; rfl; (focus ((repeat (first | apply Has.head | apply Take.head | apply Put.head | apply Has.tail | apply Take.tail | apply Put.tail)); done)); rfl; rfl; clear hS; intro w1 hS)
      | (apply RO.op; apply OP.buildSlice hS; rfl; rfl; (exact eqAuto); rfl; rfl; rfl; rfl; rfl; clear hS; intro b w1 hS)
      | (apply RO.op; apply OP.makeMap hS; rfl; clear hS; intro b w1 hS)
      | refine RO.yes rfl rfl ?_
      | refine RO.no rfl rfl rfl rfl ?_
      | refine RO.noUndef rfl rfl rfl ?_
      | refine RO.noNone rfl rfl rfl ?_
      | refine Run.cond_true rfl ?_
      | refine Run.cond_false rfl ?_
      | refine Run.skip ?_
      | refine Run.block ?_
      | refine Run.inBlock ?_
      | refine Run.exit rfl ?_
    refine Run.ret Try.func6 rfl (.tmp rfl .nil) ?_
    exact ⟨rfl, o1.back (o2.back (o3.back (hS.picks (by focus ((repeat (first | apply Picks.all | apply Picks.nil | (refine Picks.cons (by repeat (first | apply Take.head | apply Take.tail)) ?_) | apply Picks.drop)); done)))))⟩
end
end Go.Proofs.Ythejfodjielahaa
