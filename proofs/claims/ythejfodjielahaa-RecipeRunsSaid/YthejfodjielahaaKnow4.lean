/-
  What is known, as an item; maker, Can, Knows, New.
-/
import Derived.Test.YthejfodjielahaaKnow3
import Derived.Test.YthejfodjielahaaFroze
namespace Go.Proofs.Ythejfodjielahaa
set_option maxRecDepth 8000
set_option linter.unusedSimpArgs false
set_option linter.unusedVariables false
open Go Go.RowKit

section
variable {we w : World} {ρ : List (Nat × Obj)} {σ F : List HP} {L : List Nd} {kv kvK : List (Int × Bool)} {st stK : List Nat} {c cK : Nat} {K : Int → Bool} {kb km p lim : Nat} {hv : Value}

set_option maxHeartbeats 2000000 in
theorem maker_calls (hS : St we ρ (Row kb [.pointer (some ⟨p, 0, none⟩), hv, .map (some km)] 71 :: BMap km kvK stK cK :: Arena p lim L :: F) w) :
    Cl Try.prog 25 [.pointer (some ⟨kb, 0, none⟩)] w
      fun v w' => ∃ y : Lay, v = canV y ∧ y.kb = kb ∧ y.km = km ∧ y.p = p ∧ y.lim = lim ∧ y.hv = hv ∧ St we ρ (Lk y L [] [] 0 kvK stK cK :: F) w' := by
  refine Run.calls1 (n := 12) Try.func25 rfl rfl rfl ?_
  repeat' first
    | refine Run.seq ?_
    | refine Run.region ?_
    | (refine RO.split ?_ ?_ <;> intro hc <;> try (first | (exfalso; omega) | exact absurd rfl hc | exact Bool.noConfusion hc))
    | refine RO.nil ?_
    | refine RO.still (by exact Still.any) hS rfl ?_
    | (apply RO.op; apply OP.box hS; rfl; rfl; rfl; clear hS; intro b w1 hS)
    | (apply RO.op; apply OP.alloc hS; rfl; rfl; rfl; clear hS; intro b w1 hS)
    | (apply RO.op; apply OP.store hS; rfl; rfl; rfl; rfl; rfl; (focus ((repeat (first | apply Has.head | apply Take.head | apply Put.head | apply Has.tail | apply Take.tail | apply Put.tail)); done)); rfl; rfl; clear hS; intro w1 hS)
    | (apply RO.op; apply OP.buildSlice hS; rfl; rfl; (exact eqAuto); rfl; rfl; rfl; rfl; rfl; clear hS; intro b w1 hS)
    | (apply RO.op; apply OP.makeMap hS; rfl; clear hS; intro b w1 hS)
    | refine RO.yes rfl rfl ?_
    | refine RO.no rfl rfl rfl rfl ?_
    | refine RO.noUndef rfl rfl rfl ?_
    | refine RO.noNone rfl rfl rfl ?_
    | refine Run.cond_true rfl ?_
    | refine Run.cond_false rfl ?_
    | refine Run.skip ?_
    | refine Run.block ?_
    | refine Run.inBlock ?_
    | refine Run.exit rfl ?_
  refine Run.ret Try.func25 rfl (.tmp rfl .nil) ?_
  rename_i bk _ mh _ bh _ _ bc _ bl _ _ _ _
  have hS2 : St we ρ (Lk ⟨bk, bh, bc, b, bl, kb, mh, km, p, lim, hv⟩ L [] [] 0 kvK stK cK :: _) _ := take9A hS
  exact ⟨⟨bk, bh, bc, b, bl, kb, mh, km, p, lim, hv⟩, rfl, rfl, rfl, rfl, rfl, rfl, hS2⟩

/-- What is known. -/
def KN (kb p : Nat) (heard : List Int) (K : Int → Bool) : HP :=
  HP.ex fun x : Nat × List (Int × Bool) × List Nat × Nat × Value => HP.pure (Knows K x.2.1 x.2.2.1 ∧ x.2.2.1.Nodup ∧ ∀ s ∈ x.2.2.1, s < x.2.2.2.1)
    (HP.star (Row kb [.pointer (some ⟨p, 0, none⟩), x.2.2.2.2, .map (some x.1)] 71) (HP.star (BMap x.1 x.2.1 x.2.2.1 x.2.2.2.1) (Vec 3 1 x.2.2.2.2 heard.length (heard.flatMap intL))))
theorem kn_open {heard : List Int} (h : St we ρ (KN kb p heard K :: F) w) : ∃ km kvK stK cK hv, Knows K kvK stK ∧ stK.Nodup ∧ (∀ s ∈ stK, s < cK) ∧
    St we ρ (Row kb [.pointer (some ⟨p, 0, none⟩), hv, .map (some km)] 71 :: BMap km kvK stK cK :: Vec 3 1 hv heard.length (heard.flatMap intL) :: F) w := by
  obtain ⟨⟨km, kvK, stK, cK, hv⟩, h⟩ := St.ex h
  obtain ⟨⟨h1, h2, h3⟩, h⟩ := St.pure h
  have h := St.star.1 h
  have h4 := St.star.1 (h.take (.tail .head))
  exact ⟨km, kvK, stK, cK, hv, h1, h2, h3, h4.picks (by focus ((repeat (first | apply Picks.all | apply Picks.nil | (refine Picks.cons (by repeat (first | apply Take.head | apply Take.tail)) ?_) | apply Picks.drop)); done))⟩
theorem kn_shut {heard : List Int} (h1 : Knows K kvK stK) (h2 : stK.Nodup) (h3 : ∀ s ∈ stK, s < cK)
    (h : St we ρ (Row kb [.pointer (some ⟨p, 0, none⟩), hv, .map (some km)] 71 :: BMap km kvK stK cK :: Vec 3 1 hv heard.length (heard.flatMap intL) :: F) w) : St we ρ (KN kb p heard K :: F) w := by
  refine St.ex_mk (km, kvK, stK, cK, hv) (St.pure_mk ⟨h1, h2, h3⟩ (St.star.2 ?_))
  have h4 := St.star.2 (h.picks (by focus ((repeat (first | apply Picks.all | apply Picks.nil | (refine Picks.cons (by repeat (first | apply Take.head | apply Take.tail)) ?_) | apply Picks.drop)); done)) : St we ρ (BMap km kvK stK cK :: Vec 3 1 hv heard.length (heard.flatMap intL) :: Row kb [.pointer (some ⟨p, 0, none⟩), hv, .map (some km)] 71 :: F) w)
  exact h4.picks (by focus ((repeat (first | apply Picks.all | apply Picks.nil | (refine Picks.cons (by repeat (first | apply Take.head | apply Take.tail)) ?_) | apply Picks.drop)); done))
attribute [irreducible] KN

theorem knew_calls (hS : St we ρ σ w) : Cl Try.prog 15 [.pointer (some ⟨p, 0, none⟩)] w fun v w' => ∃ kb, v = .pointer (some ⟨kb, 0, none⟩) ∧ St we ρ (KN kb p [] (fun _ => false) :: σ) w' := by
  refine Run.calls1 (n := 7) Try.func15 rfl rfl rfl ?_
  repeat' first
    | refine Run.seq ?_
    | refine Run.region ?_
    | (refine RO.split ?_ ?_ <;> intro hc <;> try (first | (exfalso; omega) | exact absurd rfl hc | exact Bool.noConfusion hc))
    | refine RO.nil ?_
    | refine RO.still (by exact Still.any) hS rfl ?_
    | (apply RO.op; apply OP.box hS; rfl; rfl; rfl; clear hS; intro b w1 hS)
    | (apply RO.op; apply OP.alloc hS; rfl; rfl; rfl; clear hS; intro b w1 hS)
    | (apply RO.op; apply OP.store hS; rfl; rfl; rfl; rfl; rfl; (focus ((repeat (first | apply Has.head | apply Take.head | apply Put.head | apply Has.tail | apply Take.tail | apply Put.tail)); done)); rfl; rfl; clear hS; intro w1 hS)
    | (apply RO.op; apply OP.buildSlice hS; rfl; rfl; (exact eqAuto); rfl; rfl; rfl; rfl; rfl; clear hS; intro b w1 hS)
    | (apply RO.op; apply OP.makeMap hS; rfl; clear hS; intro b w1 hS)
    | refine RO.yes rfl rfl ?_
    | refine RO.no rfl rfl rfl rfl ?_
    | refine RO.noUndef rfl rfl rfl ?_
    | refine RO.noNone rfl rfl rfl ?_
    | refine Run.cond_true rfl ?_
    | refine Run.cond_false rfl ?_
    | refine Run.skip ?_
    | refine Run.block ?_
    | refine Run.inBlock ?_
    | refine Run.exit rfl ?_
  refine Run.ret Try.func15 rfl (.tmp rfl .nil) ?_
  rename_i m _
  have h2 : St we ρ (Vec 3 1 (.slice none 0 0) ([] : List Int).length (([] : List Int).flatMap intL) :: _) _ := vec_nil hS
  exact ⟨_, rfl, kn_shut (km := m) (cK := 0) (hv := .slice none 0 0) knows_none List.nodup_nil (by simp) (h2.picks (by focus ((repeat (first | apply Picks.all | apply Picks.nil | (refine Picks.cons (by repeat (first | apply Take.head | apply Take.tail)) ?_) | apply Picks.drop)); done)))⟩

theorem kcan_calls {heard : List Int} {x : Int} (hh : ∀ x, K x = true → has L x = true) (hS : St we ρ (KN kb p heard K :: Arena p lim L :: F) w) :
    Cl Try.prog 12 [.pointer (some ⟨kb, 0, none⟩), .int .i64 x] w fun v w' => v = .bool (can L K x) ∧ St we ρ (KN kb p heard K :: Arena p lim L :: F) w' := by
  obtain ⟨g, hS⟩ := arena_good (hS.take (.tail .head))
  obtain ⟨km, kvK, stK, cK, hv, k1, k2, k3, hS⟩ := kn_open (hS.take (.tail .head))
  replace hS := ((hS.take (.tail (.tail (.tail .head)))).take (.tail (.tail .head))).take (.tail (.tail .head))
  refine Run.calls2 (n := 9) Try.func12 rfl rfl rfl ?_
  repeat' first
    | (apply RO.op; apply OP.callF; rfl; rfl; rfl; show Cl _ 25 _ _ _; exact maker_calls (L := L) (p := p) (lim := lim) hS; clear hS; rintro v w1 ⟨y, rfl, e1, e2, e3, e4, e5, hS⟩)
    | (apply OP.callF; rfl; rfl; rfl; show Cl _ 25 _ _ _; exact maker_calls (L := L) (p := p) (lim := lim) hS; clear hS; rintro v w1 ⟨y, rfl, e1, e2, e3, e4, e5, hS⟩; refine ⟨(by first | exact hS | exact hS.tail | exact hS.sublist (by repeat (first | exact List.Sublist.refl _ | refine .cons_cons _ ?_ | refine .cons _ ?_))), ?_⟩)
    | (apply RO.op; apply OP.callV; rfl; rfl; rfl; rfl; exact can_of k1 hh (by rw [e4]; exact g) (x.toNat + 1) x _ _ _ _ _ (fun _ => Nat.lt_succ_self _) (tells_none _) hS; clear hS; rintro v w1 ⟨kv', st', c', rfl, ht', hS⟩; replace hS := St.all.1 hS; simp only [lkL, List.cons_append, List.nil_append] at hS)
    | refine Run.seq ?_
    | refine Run.region ?_
    | (refine RO.split ?_ ?_ <;> intro hc <;> try (first | (exfalso; omega) | exact absurd rfl hc | exact Bool.noConfusion hc))
    | refine RO.nil ?_
    | refine RO.still (by exact Still.any) hS rfl ?_
    | (apply RO.op; apply OP.box hS; rfl; rfl; rfl; clear hS; intro b w1 hS)
    | (apply RO.op; apply OP.alloc hS; rfl; rfl; rfl; clear hS; intro b w1 hS)
    | (apply RO.op; apply OP.store hS; rfl; rfl; rfl; rfl; rfl; (focus ((repeat (first | apply Has.head | apply Take.head | apply Put.head | apply Has.tail | apply Take.tail | apply Put.tail)); done)); rfl; rfl; clear hS; intro w1 hS)
    | (apply RO.op; apply OP.buildSlice hS; rfl; rfl; (exact eqAuto); rfl; rfl; rfl; rfl; rfl; clear hS; intro b w1 hS)
    | (apply RO.op; apply OP.makeMap hS; rfl; clear hS; intro b w1 hS)
    | refine RO.yes rfl rfl ?_
    | refine RO.no rfl rfl rfl rfl ?_
    | refine RO.noUndef rfl rfl rfl ?_
    | refine RO.noNone rfl rfl rfl ?_
    | refine Run.cond_true rfl ?_
    | refine Run.cond_false rfl ?_
    | refine Run.skip ?_
    | refine Run.block ?_
    | refine Run.inBlock ?_
    | refine Run.exit rfl ?_
  refine Run.ret Try.func12 rfl (.tmp rfl .nil) ?_
  rw [e1, e2, e3, e4, e5] at hS
  refine ⟨rfl, ?_⟩
  have h2 : St we ρ (KN kb p heard K :: Arena p lim L :: F) _ := kn_shut k1 k2 k3 (hS.picks (by focus ((repeat (first | apply Picks.all | apply Picks.nil | (refine Picks.cons (by repeat (first | apply Take.head | apply Take.tail)) ?_) | apply Picks.drop)); done)))
  exact h2

end
end Go.Proofs.Ythejfodjielahaa
