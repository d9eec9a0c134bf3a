/-
  A recipe of one step that hears gives what was heard there, or fails: undertonelaw04.RecipeHears is true.
-/
import Derived.Test.YthejfodjielahaaLawRecipeCans
namespace Go.Proofs.Ythejfodjielahaa
set_option maxRecDepth 8000
set_option linter.unusedSimpArgs false
set_option linter.unusedVariables false
open Go Go.RowKit

section
variable {we w : World} {ρ : List (Nat × Obj)} {σ F : List HP} {p lim : Nat} {L : List Nd}

theorem hears_yes {lim : Nat} {L : List Nd} {heard : List Int} {m : Nat} (h : m < heard.length) : runS lim heard [⟨0, 0, m, 0, 0⟩] L [] 0 = (L, [heard[m]], 0, 0) := by
  have e : oneS lim L heard [] ⟨0, 0, m, 0, 0⟩ = (L, mde heard m, 0) := one_heard_yes (by simp [RightP]) rfl ⟨by simp, by simp; omega⟩
  have e2 : mde heard (m : Int) = heard[m] := by simp [mde, List.getD, List.getElem?_eq_getElem h]
  rw [runS_yes (by rw [e]), e, e2]
  rfl
theorem hears_no {lim : Nat} {L : List Nd} {heard : List Int} {n : Int} (h : ¬ (0 ≤ n ∧ n < heard.length)) : runS lim heard [⟨0, 0, n, 0, 0⟩] L [] 0 = (L, [], 0, 12) := by
  have e : oneS lim L heard [] ⟨0, 0, n, 0, 0⟩ = (L, 0, 12) := one_heard_no rfl h
  rw [runS_no (by rw [e]; simp), e]

set_option maxHeartbeats 8000000 in
theorem recipeHears_law {l : List Nd} {v : Value} {refs : List Int} {u : Value} {n : Int} (hl : Sl ρ ndL 5 v l) (hq : ∀ a ∈ l, 0 ≤ a.n ∧ a.n ≤ 18446744073709551615) (hr : Sl ρ intL 1 u refs) (hq2 : ∀ a ∈ refs, True) (hn0 : (Lit.int .i64 n).wf = true) (hS : St we ρ σ w) :
    Cl Try.prog 4 [v, u, .int .i64 n] w fun v w' => v = .bool true ∧ St we ρ σ w' := by
  obtain ⟨sp1, cap1, rfl, hle1, hcm1, -⟩ := hl.val
  obtain ⟨sp2, cap2, rfl, hle2, hcm2, -⟩ := hr.val
  clear hn0
  refine Run.calls3 (n := 86) Try.func4 rfl rfl rfl ?_
  by_cases h1 : l.length ≤ 30
  rotate_left
  · repeat' first
      | (apply RO.op; apply OP.callF; rfl; rfl; rfl; show Cl _ 9 _ _ _; exact rawake_calls hS; clear hS; rintro v w1 ⟨rfl, hS⟩)
      | (apply OP.callF; rfl; rfl; rfl; show Cl _ 9 _ _ _; exact rawake_calls hS; clear hS; rintro v w1 ⟨rfl, hS⟩; refine ⟨(by first | exact hS | exact hS.tail | exact hS.sublist (by repeat (first | exact List.Sublist.refl _ | refine .cons_cons _ ?_ | refine .cons _ ?_))), ?_⟩)
      | refine Run.seq ?_
      | refine Run.region ?_
      | (refine RO.split ?_ ?_ <;> intro hc <;> try (first | (exfalso; omega) | exact absurd rfl hc | exact Bool.noConfusion hc))
      | refine RO.nil ?_
      | refine RO.still (by exact Still.any) hS rfl ?_
      | (apply RO.op; apply OP.box hS; rfl; rfl; rfl; clear hS; intro b w1 hS)
      | (apply RO.op; apply OP.alloc hS; rfl; rfl; rfl; clear hS; intro b w1 hS)
      | (apply RO.op; apply OP.store hS; rfl; rfl; rfl; rfl; rfl; (focus ((repeat (first | apply Has.head | apply Take.head | apply Put.head | apply Has.tail | apply Take.tail | apply Put.tail)); done)); rfl; rfl; clear hS; intro w1 hS)
      | (apply RO.op; apply OP.buildSlice hS; rfl; rfl; (exact eqAuto); rfl; rfl; rfl; rfl; rfl; clear hS; intro b w1 hS)
      | (apply RO.op; apply OP.makeMap hS; rfl; clear hS; intro b w1 hS)
      | refine RO.yes rfl rfl ?_
      | refine RO.no rfl rfl rfl rfl ?_
      | refine RO.noUndef rfl rfl rfl ?_
      | refine RO.noNone rfl rfl rfl ?_
      | refine Run.cond_true rfl ?_
      | refine Run.cond_false rfl ?_
      | refine Run.skip ?_
      | refine Run.block ?_
      | refine Run.inBlock ?_
      | refine Run.exit rfl ?_
    all_goals
      refine Run.ret Try.func4 rfl (.tmp rfl .nil) ?_
      exact ⟨rfl, hS.picks (by focus ((repeat (first | apply Picks.all | apply Picks.nil | (refine Picks.cons (by repeat (first | apply Take.head | apply Take.tail)) ?_) | apply Picks.drop)); done))⟩
  by_cases h2 : refs.length ≤ 30
  rotate_left
  · repeat' first
      | (apply RO.op; apply OP.callF; rfl; rfl; rfl; show Cl _ 9 _ _ _; exact rawake_calls hS; clear hS; rintro v w1 ⟨rfl, hS⟩)
      | (apply OP.callF; rfl; rfl; rfl; show Cl _ 9 _ _ _; exact rawake_calls hS; clear hS; rintro v w1 ⟨rfl, hS⟩; refine ⟨(by first | exact hS | exact hS.tail | exact hS.sublist (by repeat (first | exact List.Sublist.refl _ | refine .cons_cons _ ?_ | refine .cons _ ?_))), ?_⟩)
      | refine Run.seq ?_
      | refine Run.region ?_
      | (refine RO.split ?_ ?_ <;> intro hc <;> try (first | (exfalso; omega) | exact absurd rfl hc | exact Bool.noConfusion hc))
      | refine RO.nil ?_
      | refine RO.still (by exact Still.any) hS rfl ?_
      | (apply RO.op; apply OP.box hS; rfl; rfl; rfl; clear hS; intro b w1 hS)
      | (apply RO.op; apply OP.alloc hS; rfl; rfl; rfl; clear hS; intro b w1 hS)
      | (apply RO.op; apply OP.store hS; rfl; rfl; rfl; rfl; rfl; (focus ((repeat (first | apply Has.head | apply Take.head | apply Put.head | apply Has.tail | apply Take.tail | apply Put.tail)); done)); rfl; rfl; clear hS; intro w1 hS)
      | (apply RO.op; apply OP.buildSlice hS; rfl; rfl; (exact eqAuto); rfl; rfl; rfl; rfl; rfl; clear hS; intro b w1 hS)
      | (apply RO.op; apply OP.makeMap hS; rfl; clear hS; intro b w1 hS)
      | refine RO.yes rfl rfl ?_
      | refine RO.no rfl rfl rfl rfl ?_
      | refine RO.noUndef rfl rfl rfl ?_
      | refine RO.noNone rfl rfl rfl ?_
      | refine Run.cond_true rfl ?_
      | refine Run.cond_false rfl ?_
      | refine Run.skip ?_
      | refine Run.block ?_
      | refine Run.inBlock ?_
      | refine Run.exit rfl ?_
    all_goals
      refine Run.ret Try.func4 rfl (.tmp rfl .nil) ?_
      exact ⟨rfl, hS.picks (by focus ((repeat (first | apply Picks.all | apply Picks.nil | (refine Picks.cons (by repeat (first | apply Take.head | apply Take.tail)) ?_) | apply Picks.drop)); done))⟩
  have h40 : l.length ≤ 40 := by omega
  have g := builtUp_good (limit := 200) l
  have hh := learnAll_has g (K := fun _ => false) (by simp) refs
  have hclo := learnAll_closed (L := builtUp (room 200) l) refs
  have hkn := heard_knows (L := builtUp (room 200) l) (refs := refs)
  have hflen : (refs.filter (has (builtUp (room 200) l))).length ≤ 200000 := by
    have := List.length_filter_le (has (builtUp (room 200) l)) refs
    omega
  have hrt := builtUp_rt (limit := 200) l
  generalize hL : builtUp (room 200) l = L at g hh hclo hflen hkn hrt
  generalize hK : learnAll L refs (fun _ => false) = K at hh hclo hkn
  have hlim := g.lim
  have hlen := g.len
  have hfl1 : (refs.filter (has L)).length ≤ 100000 := by
    have := List.length_filter_le (has L) refs
    omega
  generalize hhd : refs.filter (has L) = heard at hflen hkn hfl1
  have hkit : ∀ {w : World} {σ : List HP}, St we ρ σ w → _ := fun {w σ} hS => kitchen_calls (w := w) (σ := σ) h40 h2 hl hr hL hK hS
  simp only [hhd] at hkit
  by_cases hin : 0 ≤ n ∧ n < heard.length
  · obtain ⟨hin1, hin2⟩ := hin
    obtain ⟨m, rfl⟩ : ∃ m : Nat, n = m := ⟨n.toNat, by omega⟩
    have hm : m < heard.length := by omega
    have hR := hears_yes (lim := room 200) (L := L) hm
    generalize hx : heard[m] = x at hR
    have hrun : ∀ {ρ : List (Nat × Obj)} {w : World} {b kb p : Nat} {G : List HP}, St we ρ (Row b ([(⟨0, 0, m, 0, 0⟩ : Stp)].flatMap stpL) 41 :: KN kb p heard K :: Arena p (room 200) L :: G) w → _ := fun {ρ w b kb p G} hS =>
      run_row (ρ := ρ) (w := w) (b := b) (kb := kb) (p := p) (F := G) (n := 1) (l := [⟨0, 0, m, 0, 0⟩]) rfl (by omega) g (by simp) hflen (fun x hx => hh x (hkn x hx)) hS
    simp only [hR] at hrun
    repeat' first
      | (apply RO.op; apply OP.callF; rfl; rfl; rfl; show Cl _ 10 _ _ _; exact hkit hS; clear hS; rintro v w1 ⟨kb, p, r, c, rfl, hS⟩)
      | (apply OP.callF; rfl; rfl; rfl; show Cl _ 10 _ _ _; exact hkit hS; clear hS; rintro v w1 ⟨kb, p, r, c, rfl, hS⟩; refine ⟨(by first | exact hS | exact hS.tail | exact hS.sublist (by repeat (first | exact List.Sublist.refl _ | refine .cons_cons _ ?_ | refine .cons _ ?_))), ?_⟩)
      | (apply RO.op; apply OP.callF; rfl; rfl; rfl; show Cl _ 13 _ _ _; exact heard_calls hflen (hS.take (by focus ((repeat (first | apply Has.head | apply Take.head | apply Put.head | apply Has.tail | apply Take.tail | apply Put.tail)); done))); clear hS; intro va w1 hS; obtain ⟨ρ1, o1, s1, hT⟩ := vec_freeze intL_length hS; clear hS; have hS := hT; clear hT; obtain ⟨pa, ca, rfl, ka1, ka2, _⟩ := s1.val; obtain ⟨b1, o1', cs1, e1, f1, rfl, m1, hx1⟩ := s1.int hm; rw [hx] at hx1)
      | (apply OP.callF; rfl; rfl; rfl; show Cl _ 13 _ _ _; exact heard_calls hflen (hS.take (by focus ((repeat (first | apply Has.head | apply Take.head | apply Put.head | apply Has.tail | apply Take.tail | apply Put.tail)); done))); clear hS; intro va w1 hS; obtain ⟨ρ1, o1, s1, hT⟩ := vec_freeze intL_length hS; clear hS; have hS := hT; clear hT; obtain ⟨pa, ca, rfl, ka1, ka2, _⟩ := s1.val; obtain ⟨b1, o1', cs1, e1, f1, rfl, m1, hx1⟩ := s1.int hm; rw [hx] at hx1; refine ⟨(by first | exact hS | exact hS.tail | exact hS.sublist (by repeat (first | exact List.Sublist.refl _ | refine .cons_cons _ ?_ | refine .cons _ ?_))), ?_⟩)
      | (apply RO.op; apply OP.callF; rfl; rfl; rfl; show Cl _ 11 _ _ _; exact hrun (tke3 hS (by focus ((repeat (first | apply Has.head | apply Take.head | apply Put.head | apply Has.tail | apply Take.tail | apply Put.tail)); done)) (by focus ((repeat (first | apply Has.head | apply Take.head | apply Put.head | apply Has.tail | apply Take.tail | apply Put.tail)); done)) (by focus ((repeat (first | apply Has.head | apply Take.head | apply Put.head | apply Has.tail | apply Take.tail | apply Put.tail)); done))); clear hS; rintro v w1 ⟨mv, rfl, hS⟩; obtain ⟨ρ2, o2, s2, hT⟩ := vec_freeze intL_length hS; obtain ⟨sp4, cap4, rfl, hle4, hcm4, -⟩ := s2.val; clear hS; have hS := hT; clear hT; obtain ⟨b2, o2', cs2, e2, f2, rfl, m2, hx2⟩ := s2.int (i := 0) (by simp); have m1' := o2.sub _ m1)
      | (apply OP.callF; rfl; rfl; rfl; show Cl _ 11 _ _ _; exact hrun (tke3 hS (by focus ((repeat (first | apply Has.head | apply Take.head | apply Put.head | apply Has.tail | apply Take.tail | apply Put.tail)); done)) (by focus ((repeat (first | apply Has.head | apply Take.head | apply Put.head | apply Has.tail | apply Take.tail | apply Put.tail)); done)) (by focus ((repeat (first | apply Has.head | apply Take.head | apply Put.head | apply Has.tail | apply Take.tail | apply Put.tail)); done))); clear hS; rintro v w1 ⟨mv, rfl, hS⟩; obtain ⟨ρ2, o2, s2, hT⟩ := vec_freeze intL_length hS; obtain ⟨sp4, cap4, rfl, hle4, hcm4, -⟩ := s2.val; clear hS; have hS := hT; clear hT; obtain ⟨b2, o2', cs2, e2, f2, rfl, m2, hx2⟩ := s2.int (i := 0) (by simp); have m1' := o2.sub _ m1; refine ⟨(by first | exact hS | exact hS.tail | exact hS.sublist (by repeat (first | exact List.Sublist.refl _ | refine .cons_cons _ ?_ | refine .cons _ ?_))), ?_⟩)
      | (refine Run.regionQ_of hS (by rfl) (by kernel_rfl) ?_; clear hS)
      | (refine RQ.still (by apply Still.load; rfl; rfl; exact Rd.ro m1'; exact hx1) rfl ?_)
      | (refine RQ.still (by apply Still.load; rfl; rfl; exact Rd.ro m2; exact hx2) rfl ?_)
      | (apply RQ.callF; rfl; rfl; rfl; (show ∀ w, _ → Cl _ 9 _ _ _; exact fun w hS => rawake_calls hS))
      | (refine RQ.split ?_ ?_ <;> intro hc <;> try (first | (exfalso; omega) | exact absurd rfl hc | exact Bool.noConfusion hc))
      | (refine RQ.nil ?_; (try clear hS); intro w1 hS)
      | refine RQ.still (by exact Still.any) rfl ?_
      | refine RQ.yes rfl rfl ?_
      | refine RQ.no rfl rfl rfl rfl ?_
      | refine RQ.noUndef rfl rfl rfl ?_
      | refine Run.seq ?_
      | refine Run.region ?_
      | (refine RO.split ?_ ?_ <;> intro hc <;> try (first | (exfalso; omega) | exact absurd rfl hc | exact Bool.noConfusion hc))
      | refine RO.nil ?_
      | refine RO.still (by exact Still.any) hS rfl ?_
      | (apply RO.op; apply OP.box hS; rfl; rfl; rfl; clear hS; intro b w1 hS)
      | (apply RO.op; apply OP.alloc hS; rfl; rfl; rfl; clear hS; intro b w1 hS)
      | (apply RO.op; apply OP.store hS; rfl; rfl; rfl; rfl; rfl; (focus ((repeat (first | apply Has.head | apply Take.head | apply Put.head | apply Has.tail | apply Take.tail | apply Put.tail)); done)); rfl; rfl; clear hS; intro w1 hS)
      | (apply RO.op; apply OP.buildSlice hS; rfl; rfl; (exact eqAuto); rfl; rfl; rfl; rfl; rfl; clear hS; intro b w1 hS)
      | (apply RO.op; apply OP.makeMap hS; rfl; clear hS; intro b w1 hS)
      | refine RO.yes rfl rfl ?_
      | refine RO.no rfl rfl rfl rfl ?_
      | refine RO.noUndef rfl rfl rfl ?_
      | refine RO.noNone rfl rfl rfl ?_
      | refine Run.cond_true rfl ?_
      | refine Run.cond_false rfl ?_
      | refine Run.skip ?_
      | refine Run.block ?_
      | refine Run.inBlock ?_
      | refine Run.exit rfl ?_
    refine Run.ret Try.func4 rfl (.tmp rfl .nil) ?_
    exact ⟨rfl, o1.back (o2.back (hS.picks (by focus ((repeat (first | apply Picks.all | apply Picks.nil | (refine Picks.cons (by repeat (first | apply Take.head | apply Take.tail)) ?_) | apply Picks.drop)); done))))⟩
  · have hR := hears_no (lim := room 200) (L := L) hin
    have hrun : ∀ {ρ : List (Nat × Obj)} {w : World} {b kb p : Nat} {G : List HP}, St we ρ (Row b ([(⟨0, 0, n, 0, 0⟩ : Stp)].flatMap stpL) 41 :: KN kb p heard K :: Arena p (room 200) L :: G) w → _ := fun {ρ w b kb p G} hS =>
      run_row (ρ := ρ) (w := w) (b := b) (kb := kb) (p := p) (F := G) (n := 1) (l := [⟨0, 0, n, 0, 0⟩]) rfl (by omega) g (by simp) hflen (fun x hx => hh x (hkn x hx)) hS
    simp only [hR] at hrun
    repeat' first
      | (apply RO.op; apply OP.callF; rfl; rfl; rfl; show Cl _ 10 _ _ _; exact hkit hS; clear hS; rintro v w1 ⟨kb, p, r, c, rfl, hS⟩)
      | (apply OP.callF; rfl; rfl; rfl; show Cl _ 10 _ _ _; exact hkit hS; clear hS; rintro v w1 ⟨kb, p, r, c, rfl, hS⟩; refine ⟨(by first | exact hS | exact hS.tail | exact hS.sublist (by repeat (first | exact List.Sublist.refl _ | refine .cons_cons _ ?_ | refine .cons _ ?_))), ?_⟩)
      | (apply RO.op; apply OP.callF; rfl; rfl; rfl; show Cl _ 13 _ _ _; exact heard_calls hflen (hS.take (by focus ((repeat (first | apply Has.head | apply Take.head | apply Put.head | apply Has.tail | apply Take.tail | apply Put.tail)); done))); clear hS; intro va w1 hS; obtain ⟨ρ1, o1, s1, hT⟩ := vec_freeze intL_length hS; clear hS; have hS := hT; clear hT; obtain ⟨pa, ca, rfl, ka1, ka2, _⟩ := s1.val)
      | (apply OP.callF; rfl; rfl; rfl; show Cl _ 13 _ _ _; exact heard_calls hflen (hS.take (by focus ((repeat (first | apply Has.head | apply Take.head | apply Put.head | apply Has.tail | apply Take.tail | apply Put.tail)); done))); clear hS; intro va w1 hS; obtain ⟨ρ1, o1, s1, hT⟩ := vec_freeze intL_length hS; clear hS; have hS := hT; clear hT; obtain ⟨pa, ca, rfl, ka1, ka2, _⟩ := s1.val; refine ⟨(by first | exact hS | exact hS.tail | exact hS.sublist (by repeat (first | exact List.Sublist.refl _ | refine .cons_cons _ ?_ | refine .cons _ ?_))), ?_⟩)
      | (apply RO.op; apply OP.callF; rfl; rfl; rfl; show Cl _ 11 _ _ _; exact hrun (tke3 hS (by focus ((repeat (first | apply Has.head | apply Take.head | apply Put.head | apply Has.tail | apply Take.tail | apply Put.tail)); done)) (by focus ((repeat (first | apply Has.head | apply Take.head | apply Put.head | apply Has.tail | apply Take.tail | apply Put.tail)); done)) (by focus ((repeat (first | apply Has.head | apply Take.head | apply Put.head | apply Has.tail | apply Take.tail | apply Put.tail)); done))); clear hS; rintro v w1 ⟨mv, rfl, hS⟩; obtain ⟨ρ2, o2, s2, hT⟩ := vec_freeze (l := ([] : List Int)) intL_length hS; obtain ⟨sp4, cap4, rfl, hle4, hcm4, -⟩ := s2.val; clear hS; have hS := hT; clear hT)
      | (apply OP.callF; rfl; rfl; rfl; show Cl _ 11 _ _ _; exact hrun (tke3 hS (by focus ((repeat (first | apply Has.head | apply Take.head | apply Put.head | apply Has.tail | apply Take.tail | apply Put.tail)); done)) (by focus ((repeat (first | apply Has.head | apply Take.head | apply Put.head | apply Has.tail | apply Take.tail | apply Put.tail)); done)) (by focus ((repeat (first | apply Has.head | apply Take.head | apply Put.head | apply Has.tail | apply Take.tail | apply Put.tail)); done))); clear hS; rintro v w1 ⟨mv, rfl, hS⟩; obtain ⟨ρ2, o2, s2, hT⟩ := vec_freeze (l := ([] : List Int)) intL_length hS; obtain ⟨sp4, cap4, rfl, hle4, hcm4, -⟩ := s2.val; clear hS; have hS := hT; clear hT; refine ⟨(by first | exact hS | exact hS.tail | exact hS.sublist (by repeat (first | exact List.Sublist.refl _ | refine .cons_cons _ ?_ | refine .cons _ ?_))), ?_⟩)
      | (apply RO.op; apply OP.callF; rfl; rfl; rfl; show Cl _ 9 _ _ _; exact rawake_calls hS; clear hS; rintro v w1 ⟨rfl, hS⟩)
      | (apply OP.callF; rfl; rfl; rfl; show Cl _ 9 _ _ _; exact rawake_calls hS; clear hS; rintro v w1 ⟨rfl, hS⟩; refine ⟨(by first | exact hS | exact hS.tail | exact hS.sublist (by repeat (first | exact List.Sublist.refl _ | refine .cons_cons _ ?_ | refine .cons _ ?_))), ?_⟩)
      | refine Run.seq ?_
      | refine Run.region ?_
      | (refine RO.split ?_ ?_ <;> intro hc <;> try (first | (exfalso; omega) | exact absurd rfl hc | exact Bool.noConfusion hc))
      | refine RO.nil ?_
      | refine RO.still (by exact Still.any) hS rfl ?_
      | (apply RO.op; apply OP.box hS; rfl; rfl; rfl; clear hS; intro b w1 hS)
      | (apply RO.op; apply OP.alloc hS; rfl; rfl; rfl; clear hS; intro b w1 hS)
      | (apply RO.op; apply OP.store hS; rfl; rfl; rfl; rfl; rfl; (focus ((repeat (first | apply Has.head | apply Take.head | apply Put.head | apply Has.tail | apply Take.tail | apply Put.tail)); done)); rfl; rfl; clear hS; intro w1 hS)
      | (apply RO.op; apply OP.buildSlice hS; rfl; rfl; (exact eqAuto); rfl; rfl; rfl; rfl; rfl; clear hS; intro b w1 hS)
      | (apply RO.op; apply OP.makeMap hS; rfl; clear hS; intro b w1 hS)
      | refine RO.yes rfl rfl ?_
      | refine RO.no rfl rfl rfl rfl ?_
      | refine RO.noUndef rfl rfl rfl ?_
      | refine RO.noNone rfl rfl rfl ?_
      | refine Run.cond_true rfl ?_
      | refine Run.cond_false rfl ?_
      | refine Run.skip ?_
      | refine Run.block ?_
      | refine Run.inBlock ?_
      | refine Run.exit rfl ?_
    all_goals
      refine Run.ret Try.func4 rfl (.tmp rfl .nil) ?_
      exact ⟨rfl, o1.back (o2.back (hS.picks (by focus ((repeat (first | apply Picks.all | apply Picks.nil | (refine Picks.cons (by repeat (first | apply Take.head | apply Take.tail)) ?_) | apply Picks.drop)); done))))⟩
end
end Go.Proofs.Ythejfodjielahaa
