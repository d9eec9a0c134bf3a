/-
  The layer of recipes in the program: Run; the laws' helpers kitchen, awake.
-/
import Derived.Test.YthejfodjielahaaRecipe4
import Derived.Test.YthejfodjielahaaLaw2
namespace Go.Proofs.Ythejfodjielahaa
set_option maxRecDepth 8000
set_option linter.unusedSimpArgs false
set_option linter.unusedVariables false
open Go Go.RowKit

theorem runS_no {lim : Nat} {heard : List Int} {s : Stp} {l : List Stp} {L : List Nd} {made : List Int} {i : Nat} (h : (oneS lim L heard made s).2.2 ≠ 0) : runS lim heard (s :: l) L made i = ((oneS lim L heard made s).1, [], i, (oneS lim L heard made s).2.2) := by
  conv => lhs; unfold runS
  rw [if_pos h, one_same h]
theorem runS_yes {lim : Nat} {heard : List Int} {s : Stp} {l : List Stp} {L : List Nd} {made : List Int} {i : Nat} (h : (oneS lim L heard made s).2.2 = 0) : runS lim heard (s :: l) L made i = runS lim heard l (oneS lim L heard made s).1 (made ++ [(oneS lim L heard made s).2.1]) (i + 1) := by
  conv => lhs; unfold runS
  rw [if_neg (by simp [h])]
theorem allHas_one {lim : Nat} {L : List Nd} (g : Good lim L) {heard made : List Int} (h1 : AllHas L heard) (h2 : AllHas L made) {s : Stp} : Good lim (oneS lim L heard made s).1 ∧ AllHas (oneS lim L heard made s).1 heard ∧ AllHas (oneS lim L heard made s).1 made ∧ ((oneS lim L heard made s).2.2 = 0 → AllHas (oneS lim L heard made s).1 (made ++ [(oneS lim L heard made s).2.1])) := by
  have o := one_ok g h1 h2 s
  obtain ⟨M, hM⟩ := o.ext
  have e1 : AllHas (oneS lim L heard made s).1 made := by rw [hM]; exact allHas_ext h2
  refine ⟨o.good, by rw [hM]; exact allHas_ext h1, e1, fun he x hx => ?_⟩
  rcases List.mem_append.1 hx with q | q
  · exact e1 x q
  · rw [List.mem_singleton.1 q]; exact o.made he

section
variable {we w : World} {ρ : List (Nat × Obj)} {σ F : List HP} {kb p lim cb : Nat} {L : List Nd} {K : Int → Bool} {v mv : Value} {heard made : List Int}

set_option maxHeartbeats 4000000 in
theorem run_calls {l : List Stp} (g : Good lim L) (hl : Sl ρ stpL 5 v l) (hq : ∀ s ∈ l, 0 ≤ s.n ∧ s.n ≤ 18446744073709551615) (hll : l.length ≤ 1000) (hhl : heard.length ≤ 200000) (hhh : AllHas L heard)
    (hS : St we ρ (KN kb p heard K :: Arena p lim L :: F) w) :
    Cl Try.prog 11 [.pointer (some ⟨p, 0, none⟩), .pointer (some ⟨kb, 0, none⟩), v] w fun v w' => ∃ mv, v = .tuple #[mv, .int .i64 (runS lim heard l L [] 0).2.2.1, .int .i64 (runS lim heard l L [] 0).2.2.2] ∧
      St we ρ (Vec 3 1 mv (runS lim heard l L [] 0).2.1.length ((runS lim heard l L [] 0).2.1.flatMap intL) :: KN kb p heard K :: Arena p lim (runS lim heard l L [] 0).1 :: F) w' := by
  obtain ⟨p1, c1, rfl, k1, k2, hrow⟩ := hl.val
  refine Run.calls3 (n := 50) Try.func11 rfl rfl rfl ?_
  repeat' first
    | refine Run.seq ?_
    | refine Run.region ?_
    | (refine RO.split ?_ ?_ <;> intro hc <;> try (first | (exfalso; omega) | exact absurd rfl hc | exact Bool.noConfusion hc))
    | refine RO.nil ?_
    | refine RO.still (by exact Still.any) hS rfl ?_
    | (apply RO.op; apply OP.box hS; rfl; rfl; rfl; clear hS; intro b w1 hS)
    | (apply RO.op; apply OP.alloc hS; rfl; rfl; rfl; clear hS; intro b w1 hS)
    | (apply RO.op; apply OP.store hS; rfl; rfl; rfl; rfl; rfl; (focus ((repeat (first | apply Has.head | apply Take.head | apply Put.head | apply Has.tail | apply Take.tail | apply Put.tail)); done)); rfl; rfl; clear hS; intro w1 hS)
    | (apply RO.op; apply OP.buildSlice hS; rfl; rfl; (exact eqAuto); rfl; rfl; rfl; rfl; rfl; clear hS; intro b w1 hS)
    | (apply RO.op; apply OP.makeMap hS; rfl; clear hS; intro b w1 hS)
    | refine RO.yes rfl rfl ?_
    | refine RO.no rfl rfl rfl rfl ?_
    | refine RO.noUndef rfl rfl rfl ?_
    | refine RO.noNone rfl rfl rfl ?_
    | refine Run.cond_true rfl ?_
    | refine Run.cond_false rfl ?_
    | refine Run.skip ?_
    | refine Run.block ?_
    | refine Run.inBlock ?_
    | refine Run.exit rfl ?_
  obtain ⟨cb, hcb⟩ : ∃ x, x = b := ⟨b, rfl⟩
  subst hcb
  refine Run.while (fun q : Nat × List Nd × List Int × Value => [(9, .pointer (some ⟨cb, 0, none⟩)), (18, .slice p1 l.length c1), (19, .int .i64 l.length), (20, .int .i64 q.1)])
    (fun q w => q.1 ≤ l.length ∧ runS lim heard l L [] 0 = runS lim heard (l.drop q.1) q.2.1 q.2.2.1 q.1 ∧ Good lim q.2.1 ∧ AllHas q.2.1 heard ∧ AllHas q.2.1 q.2.2.1 ∧ q.2.2.1.length = q.1 ∧
      St we ρ (Arena p lim q.2.1 :: Row cb [.pointer (some ⟨p, 0, none⟩), .pointer (some ⟨kb, 0, none⟩), q.2.2.2] 65 :: Vec 3 1 q.2.2.2 q.2.2.1.length (q.2.2.1.flatMap intL) :: KN kb p heard K :: F) w) (fun q => l.length - q.1) (0, L, [], .slice none 0 0)
    ⟨by simp, rfl, g, hhh, (fun x hx => by cases hx), rfl, (vec_nil hS).picks (by focus ((repeat (first | apply Picks.all | apply Picks.nil | (refine Picks.cons (by repeat (first | apply Take.head | apply Take.tail)) ?_) | apply Picks.drop)); done))⟩ (by focus ((repeat (first | exact .nil | refine .cons rfl ?_)); done)) ?_
  clear hS hhh g
  rintro ⟨i, L, made, mv⟩ w ⟨hi, hrun, g, hhh, hmh, hml, hS⟩ ih
  simp only at hi hrun g hhh hmh hml hS ih ⊢
  rw [hrun]
  by_cases hlt : i < l.length
  · obtain ⟨bb, off, cs, el, fr, rfl, hmem, hnd⟩ := hrow (by omega)
    have hni := hnd i hlt
    have hsq := hq l[i] (List.getElem_mem hlt)
    have hdrop : l.drop i = l[i] :: l.drop (i + 1) := List.drop_eq_getElem_cons hlt
    generalize l[i] = s at hni hsq hdrop
    have hml2 : made.length ≤ 200000 := by omega
    obtain ⟨q1, q2, q3, q4⟩ := allHas_one (made := made) g hhh hmh (s := s)
    have hstep : ∀ {w : World} {G : List HP}, St we ρ (Arena p lim L :: Row cb [.pointer (some ⟨p, 0, none⟩), .pointer (some ⟨kb, 0, none⟩), mv] 65 :: Vec 3 1 mv made.length (made.flatMap intL) :: KN kb p heard K :: G) w → _ := fun {w G} hS => step_calls (w := w) (F := G) (s := s) g hsq hml2 hhl hmh hS
    obtain ⟨L2, x, e, ho⟩ : ∃ L2 x e, oneS lim L heard made s = (L2, x, e) := ⟨_, _, _, rfl⟩
    rw [hdrop] at hrun ⊢
    by_cases he : e = 0
    · subst he
      rw [runS_yes (by rw [ho])] at hrun ⊢
      rw [ho] at hrun q1 q2 q3 q4 ⊢
      simp only [ho] at hstep
      simp only at hrun q1 q2 q3 q4 ⊢
      rw [← hrun]
      repeat' first
        | (refine RO.still (by apply Still.loadAgg; rfl; rfl; (exact eqAuto); exact Rd.ro hmem; exact hni; rfl) hS rfl ?_)
        | (apply RO.op; apply OP.callF; rfl; rfl; rfl; show Cl _ 24 _ _ _; exact hstep (tke4 hS (by focus ((repeat (first | apply Has.head | apply Take.head | apply Put.head | apply Has.tail | apply Take.tail | apply Put.tail)); done)) (by focus ((repeat (first | apply Has.head | apply Take.head | apply Put.head | apply Has.tail | apply Take.tail | apply Put.tail)); done)) (by focus ((repeat (first | apply Has.head | apply Take.head | apply Put.head | apply Has.tail | apply Take.tail | apply Put.tail)); done)) (by focus ((repeat (first | apply Has.head | apply Take.head | apply Put.head | apply Has.tail | apply Take.tail | apply Put.tail)); done))); clear hS; rintro v w1 ⟨rfl, hS⟩)
        | (apply RO.op; apply OP.append (size := 1) (bytes := 8) (k := 1) (news := [.int .i64 x]) hS; rfl; rfl; rfl; rfl; rfl; rfl; rfl; rfl; exact (by omega); (focus ((repeat (first | apply Has.head | apply Take.head | apply Put.head | apply Has.tail | apply Take.tail | apply Put.tail)); done)); (exact Rd.any); rfl; rfl; exact (by intro v hv; simp at hv; subst hv; rfl); (exact (by unfold maxLen; omega)); (exact (by omega)); rfl
           clear hS; intro v2 w1 hS; obtain ⟨pv, cv, rfl⟩ := vec_slice hS)
        | refine Run.seq ?_
        | refine Run.region ?_
        | (refine RO.split ?_ ?_ <;> intro hc <;> try (first | (exfalso; omega) | exact absurd rfl hc | exact Bool.noConfusion hc))
        | refine RO.nil ?_
        | refine RO.still (by exact Still.any) hS rfl ?_
        | (apply RO.op; apply OP.box hS; rfl; rfl; rfl; clear hS; intro b w1 hS)
        | (apply RO.op; apply OP.alloc hS; rfl; rfl; rfl; clear hS; intro b w1 hS)
        | (apply RO.op; apply OP.store hS; rfl; rfl; rfl; rfl; rfl; (focus ((repeat (first | apply Has.head | apply Take.head | apply Put.head | apply Has.tail | apply Take.tail | apply Put.tail)); done)); rfl; rfl; clear hS; intro w1 hS)
        | (apply RO.op; apply OP.buildSlice hS; rfl; rfl; (exact eqAuto); rfl; rfl; rfl; rfl; rfl; clear hS; intro b w1 hS)
        | (apply RO.op; apply OP.makeMap hS; rfl; clear hS; intro b w1 hS)
        | refine RO.yes rfl rfl ?_
        | refine RO.no rfl rfl rfl rfl ?_
        | refine RO.noUndef rfl rfl rfl ?_
        | refine RO.noNone rfl rfl rfl ?_
        | refine Run.cond_true rfl ?_
        | refine Run.cond_false rfl ?_
        | refine Run.skip ?_
        | refine Run.block ?_
        | refine Run.inBlock ?_
        | refine Run.exit rfl ?_
      refine Run.weaken (by focus ((repeat (first | exact .nil | refine .cons rfl ?_)); done)) (ih (i + 1, L2, made ++ [x], .slice pv (made.length + 1) cv) _ ⟨by simp; omega, hrun, q1, q2, q4 trivial, by simp; omega, ?_⟩ (by simp; omega))
      simp only [List.length_append, List.flatMap_append]
      exact hS.picks (by focus ((repeat (first | apply Picks.all | apply Picks.nil | (refine Picks.cons (by repeat (first | apply Take.head | apply Take.tail)) ?_) | apply Picks.drop)); done))
    · rw [runS_no (by rw [ho]; exact he)]
      rw [ho]
      simp only [ho] at hstep
      simp only at ⊢
      repeat' first
        | (refine RO.still (by apply Still.loadAgg; rfl; rfl; (exact eqAuto); exact Rd.ro hmem; exact hni; rfl) hS rfl ?_)
        | (apply RO.op; apply OP.callF; rfl; rfl; rfl; show Cl _ 24 _ _ _; exact hstep (tke4 hS (by focus ((repeat (first | apply Has.head | apply Take.head | apply Put.head | apply Has.tail | apply Take.tail | apply Put.tail)); done)) (by focus ((repeat (first | apply Has.head | apply Take.head | apply Put.head | apply Has.tail | apply Take.tail | apply Put.tail)); done)) (by focus ((repeat (first | apply Has.head | apply Take.head | apply Put.head | apply Has.tail | apply Take.tail | apply Put.tail)); done)) (by focus ((repeat (first | apply Has.head | apply Take.head | apply Put.head | apply Has.tail | apply Take.tail | apply Put.tail)); done))); clear hS; rintro v w1 ⟨rfl, hS⟩)
        | refine Run.seq ?_
        | refine Run.region ?_
        | (refine RO.split ?_ ?_ <;> intro hc <;> try (first | (exfalso; omega) | exact absurd rfl hc | exact Bool.noConfusion hc))
        | refine RO.nil ?_
        | refine RO.still (by exact Still.any) hS rfl ?_
        | (apply RO.op; apply OP.box hS; rfl; rfl; rfl; clear hS; intro b w1 hS)
        | (apply RO.op; apply OP.alloc hS; rfl; rfl; rfl; clear hS; intro b w1 hS)
        | (apply RO.op; apply OP.store hS; rfl; rfl; rfl; rfl; rfl; (focus ((repeat (first | apply Has.head | apply Take.head | apply Put.head | apply Has.tail | apply Take.tail | apply Put.tail)); done)); rfl; rfl; clear hS; intro w1 hS)
        | (apply RO.op; apply OP.buildSlice hS; rfl; rfl; (exact eqAuto); rfl; rfl; rfl; rfl; rfl; clear hS; intro b w1 hS)
        | (apply RO.op; apply OP.makeMap hS; rfl; clear hS; intro b w1 hS)
        | refine RO.yes rfl rfl ?_
        | refine RO.no rfl rfl rfl rfl ?_
        | refine RO.noUndef rfl rfl rfl ?_
        | refine RO.noNone rfl rfl rfl ?_
        | refine Run.cond_true rfl ?_
        | refine Run.cond_false rfl ?_
        | refine Run.skip ?_
        | refine Run.block ?_
        | refine Run.inBlock ?_
        | refine Run.exit rfl ?_
      refine Run.ret Try.func11 rfl (.tmp rfl (.tmp rfl (.tmp rfl .nil))) ?_
      exact ⟨_, rfl, (vec_nil hS).picks (by focus ((repeat (first | apply Picks.all | apply Picks.nil | (refine Picks.cons (by repeat (first | apply Take.head | apply Take.tail)) ?_) | apply Picks.drop)); done))⟩
  · obtain rfl : i = l.length := by omega
    rw [List.drop_of_length_le (Nat.le_refl _)]
    obtain ⟨pv, cv, rfl⟩ := vec_slice (hS.take (A := Vec 3 1 mv made.length (made.flatMap intL)) (by focus ((repeat (first | apply Has.head | apply Take.head | apply Put.head | apply Has.tail | apply Take.tail | apply Put.tail)); done)))
    repeat' first
      | refine Run.seq ?_
      | refine Run.region ?_
      | (refine RO.split ?_ ?_ <;> intro hc <;> try (first | (exfalso; omega) | exact absurd rfl hc | exact Bool.noConfusion hc))
      | refine RO.nil ?_
      | refine RO.still (by exact Still.any) hS rfl ?_
      | (apply RO.op; apply OP.box hS; rfl; rfl; rfl; clear hS; intro b w1 hS)
      | (apply RO.op; apply OP.alloc hS; rfl; rfl; rfl; clear hS; intro b w1 hS)
      | (apply RO.op; apply OP.store hS; rfl; rfl; rfl; rfl; rfl; (focus ((repeat (first | apply Has.head | apply Take.head | apply Put.head | apply Has.tail | apply Take.tail | apply Put.tail)); done)); rfl; rfl; clear hS; intro w1 hS)
      | (apply RO.op; apply OP.buildSlice hS; rfl; rfl; (exact eqAuto); rfl; rfl; rfl; rfl; rfl; clear hS; intro b w1 hS)
      | (apply RO.op; apply OP.makeMap hS; rfl; clear hS; intro b w1 hS)
      | refine RO.yes rfl rfl ?_
      | refine RO.no rfl rfl rfl rfl ?_
      | refine RO.noUndef rfl rfl rfl ?_
      | refine RO.noNone rfl rfl rfl ?_
      | refine Run.cond_true rfl ?_
      | refine Run.cond_false rfl ?_
      | refine Run.skip ?_
      | refine Run.block ?_
      | refine Run.inBlock ?_
      | refine Run.exit rfl ?_
    refine Run.ret Try.func11 rfl (.tmp rfl (.tmp rfl (.tmp rfl .nil))) ?_
    exact ⟨_, rfl, hS.picks (by focus ((repeat (first | apply Picks.all | apply Picks.nil | (refine Picks.cons (by repeat (first | apply Take.head | apply Take.tail)) ?_) | apply Picks.drop)); done))⟩
end
end Go.Proofs.Ythejfodjielahaa
