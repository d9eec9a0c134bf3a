/-
  The layer of traces, as far as it hangs on what is known: what is closed, forged, leaked; in the program and in the document.
-/
import Derived.Test.YtcigkkedffggiaaTraceLaw
import Derived.Test.YtcigkkedffggiaaKnow14
namespace Go.Proofs.Ytcigkkedffggiaa
set_option maxRecDepth 8000
set_option linter.unusedSimpArgs false
set_option linter.unusedVariables false
open Go Go.RowKit

/-- An event's key is one that can't be made. -/
def closedV (x : Ev) (sent c : Bool) : Bool := if x.sent = sent then (if 0 < x.key then !c else false) else false
def forgedV (l : List Ev) (x : Ev) (c : Bool) : Bool := closedV x false c && decide (((honest l x.part).length : Int) = 0)
def leakedV (x : Ev) (c cp : Bool) : Bool := closedV x true c && cp

theorem cell_at {cs vs : List Value} {k m j : Nat} {v : Value} (h : (cs.drop k).take m = vs) (hj : vs[j]? = some v) : cs[k + j]? = some v := by
  rw [← h] at hj
  have hl := (List.getElem?_eq_some_iff.1 hj).1
  rw [List.length_take] at hl
  rw [List.getElem?_take, if_pos (by omega), List.getElem?_drop] at hj
  exact hj

section
variable {we w : World} {ρ : List (Nat × Obj)} {σ F : List HP} {kb p lim r cap : Nat} {L : List Nd} {K : Int → Bool} {u v : Value} {spare : List Value} {heard : List Int} {l : List Ev} {i : Int}

theorem closed_out {sent : Bool} (hl : Sl ρ tevL 13 v l) (hle : l.length ≤ 30) (hi : ¬ (0 ≤ i ∧ i < l.length)) (hS : St we ρ σ w) :
    Cl Try.prog 42 [u, v, .int .i64 i, .bool sent] w fun v w' => v = .bool false ∧ St we ρ σ w' := by
  obtain ⟨p1, c1, rfl, k1, k2, hrow⟩ := hl.val
  by_cases h0 : i < 0
  · refine Run.calls4 (n := 45) Try.func42 rfl rfl rfl ?_
    repeat' first
      | refine Run.seq ?_
      | refine Run.region ?_
      | (refine RO.split ?_ ?_ <;> intro hc <;> try (first | (exfalso; omega) | exact absurd rfl hc | exact Bool.noConfusion hc))
      | refine RO.nil ?_
      | refine RO.still (by exact Still.any) hS rfl ?_
      | (apply RO.op; apply OP.box hS; rfl; rfl; rfl; clear hS; intro b w1 hS)
      | (apply RO.op; apply OP.alloc hS; rfl; rfl; rfl; clear hS; intro b w1 hS)
      | (apply RO.op; apply OP.store hS; rfl; rfl; rfl; rfl; rfl; (focus ((repeat (first | apply Has.head | apply Take.head | apply Put.head | apply Has.tail | apply Take.tail | apply Put.tail)); done)); rfl; rfl; clear hS; intro w1 hS)
      | (apply RO.op; apply OP.buildSlice hS; rfl; rfl; (exact eqAuto); rfl; rfl; rfl; rfl; rfl; clear hS; intro b w1 hS)
      | (apply RO.op; apply OP.makeMap hS; rfl; clear hS; intro b w1 hS)
      | refine RO.yes rfl rfl ?_
      | refine RO.no rfl rfl rfl rfl ?_
      | refine RO.noUndef rfl rfl rfl ?_
      | refine RO.noNone rfl rfl rfl ?_
      | refine Run.cond_true rfl ?_
      | refine Run.cond_false rfl ?_
      | refine Run.skip ?_
      | refine Run.block ?_
      | refine Run.inBlock ?_
      | refine Run.exit rfl ?_
    refine Run.ret Try.func42 rfl (.tmp rfl .nil) ?_
    exact ⟨rfl, hS.picks (by focus ((repeat (first | apply Picks.all | apply Picks.nil | (refine Picks.cons (by repeat (first | apply Take.head | apply Take.tail)) ?_) | apply Picks.drop)); done))⟩
  · have h1 : (l.length : Int) ≤ i := by omega
    refine Run.calls4 (n := 45) Try.func42 rfl rfl rfl ?_
    repeat' first
      | refine Run.seq ?_
      | refine Run.region ?_
      | (refine RO.split ?_ ?_ <;> intro hc <;> try (first | (exfalso; omega) | exact absurd rfl hc | exact Bool.noConfusion hc))
      | refine RO.nil ?_
      | refine RO.still (by exact Still.any) hS rfl ?_
      | (apply RO.op; apply OP.box hS; rfl; rfl; rfl; clear hS; intro b w1 hS)
      | (apply RO.op; apply OP.alloc hS; rfl; rfl; rfl; clear hS; intro b w1 hS)
      | (apply RO.op; apply OP.store hS; rfl; rfl; rfl; rfl; rfl; (focus ((repeat (first | apply Has.head | apply Take.head | apply Put.head | apply Has.tail | apply Take.tail | apply Put.tail)); done)); rfl; rfl; clear hS; intro w1 hS)
      | (apply RO.op; apply OP.buildSlice hS; rfl; rfl; (exact eqAuto); rfl; rfl; rfl; rfl; rfl; clear hS; intro b w1 hS)
      | (apply RO.op; apply OP.makeMap hS; rfl; clear hS; intro b w1 hS)
      | refine RO.yes rfl rfl ?_
      | refine RO.no rfl rfl rfl rfl ?_
      | refine RO.noUndef rfl rfl rfl ?_
      | refine RO.noNone rfl rfl rfl ?_
      | refine Run.cond_true rfl ?_
      | refine Run.cond_false rfl ?_
      | refine Run.skip ?_
      | refine Run.block ?_
      | refine Run.inBlock ?_
      | refine Run.exit rfl ?_
    refine Run.ret Try.func42 rfl (.tmp rfl .nil) ?_
    exact ⟨rfl, hS.picks (by focus ((repeat (first | apply Picks.all | apply Picks.nil | (refine Picks.cons (by repeat (first | apply Take.head | apply Take.tail)) ?_) | apply Picks.drop)); done))⟩

set_option maxHeartbeats 2000000 in
theorem closed_in {sent : Bool} {m : Nat} {x : Ev} (hh : ∀ x, K x = true → has L x = true) (hl : Sl ρ tevL 13 v l) (hle : l.length ≤ 30) (hm : m < l.length) (hx : l[m] = x) (hS : St we ρ (KN kb p heard K :: Arena p lim L :: F) w) :
    Cl Try.prog 42 [.pointer (some ⟨kb, 0, none⟩), v, .int .i64 m, .bool sent] w fun v w' => v = .bool (closedV x sent (can L K x.key)) ∧ St we ρ (KN kb p heard K :: Arena p lim L :: F) w' := by
  obtain ⟨p1, c1, rfl, k1, k2, hrow⟩ := hl.val
  obtain ⟨b, off, cs, el, fr, rfl, hmem, hnd⟩ := hrow (by omega)
  have hni := hnd m hm
  rw [hx] at hni
  have f2 : cs[off + m * 13 + 2]? = some (.bool x.sent) := cell_at hni rfl
  have f6 : cs[off + m * 13 + 6]? = some (.int .i64 x.key) := cell_at hni rfl
  unfold closedV
  obtain ⟨sx, hsx⟩ : ∃ b, x.sent = b := ⟨_, rfl⟩
  rw [hsx] at f2
  by_cases hs : sx = sent
  · subst hs
    rw [if_pos hsx]
    by_cases hk : 0 < x.key
    · rw [if_pos hk]
      cases hcan : can L K x.key <;> cases sx
      all_goals
        refine Run.calls4 (n := 45) Try.func42 rfl rfl rfl ?_
        repeat' first
          | (refine RO.still (by apply Still.load; rfl; rfl; exact Rd.ro hmem; exact f2) hS rfl ?_)
          | (refine RO.still (by apply Still.load; rfl; rfl; exact Rd.ro hmem; exact f6) hS rfl ?_)
          | (apply RO.op; apply OP.callF; rfl; rfl; rfl; show Cl _ 43 _ _ _; exact kcan_is hh hcan (hS.take2 (by focus ((repeat (first | apply Has.head | apply Take.head | apply Put.head | apply Has.tail | apply Take.tail | apply Put.tail)); done)) (by focus ((repeat (first | apply Has.head | apply Take.head | apply Put.head | apply Has.tail | apply Take.tail | apply Put.tail)); done))); clear hS; rintro v w1 ⟨rfl, hS⟩)
          | (apply OP.callF; rfl; rfl; rfl; show Cl _ 43 _ _ _; exact kcan_is hh hcan (hS.take2 (by focus ((repeat (first | apply Has.head | apply Take.head | apply Put.head | apply Has.tail | apply Take.tail | apply Put.tail)); done)) (by focus ((repeat (first | apply Has.head | apply Take.head | apply Put.head | apply Has.tail | apply Take.tail | apply Put.tail)); done))); clear hS; rintro v w1 ⟨rfl, hS⟩; refine ⟨(by first | exact hS | exact hS.tail | exact hS.sublist (by repeat (first | exact List.Sublist.refl _ | refine .cons_cons _ ?_ | refine .cons _ ?_))), ?_⟩)
          | refine Run.seq ?_
          | refine Run.region ?_
          | (refine RO.split ?_ ?_ <;> intro hc <;> try (first | (exfalso; omega) | exact absurd rfl hc | exact Bool.noConfusion hc))
          | refine RO.nil ?_
          | refine RO.still (by exact Still.any) hS rfl ?_
          | (apply RO.op; apply OP.box hS; rfl; rfl; rfl; clear hS; intro b w1 hS)
          | (apply RO.op; apply OP.alloc hS; rfl; rfl; rfl; clear hS; intro b w1 hS)
          | (apply RO.op; apply OP.store hS; rfl; rfl; rfl; rfl; rfl; (focus ((repeat (first | apply Has.head | apply Take.head | apply Put.head | apply Has.tail | apply Take.tail | apply Put.tail)); done)); rfl; rfl; clear hS; intro w1 hS)
          | (apply RO.op; apply OP.buildSlice hS; rfl; rfl; (exact eqAuto); rfl; rfl; rfl; rfl; rfl; clear hS; intro b w1 hS)
          | (apply RO.op; apply OP.makeMap hS; rfl; clear hS; intro b w1 hS)
          | refine RO.yes rfl rfl ?_
          | refine RO.no rfl rfl rfl rfl ?_
          | refine RO.noUndef rfl rfl rfl ?_
          | refine RO.noNone rfl rfl rfl ?_
          | refine Run.cond_true rfl ?_
          | refine Run.cond_false rfl ?_
          | refine Run.skip ?_
          | refine Run.block ?_
          | refine Run.inBlock ?_
          | refine Run.exit rfl ?_
        refine Run.ret Try.func42 rfl (.tmp rfl .nil) ?_
        exact ⟨rfl, hS.picks (by focus ((repeat (first | apply Picks.all | apply Picks.nil | (refine Picks.cons (by repeat (first | apply Take.head | apply Take.tail)) ?_) | apply Picks.drop)); done))⟩
    · rw [if_neg hk]
      cases sx
      all_goals
        refine Run.calls4 (n := 45) Try.func42 rfl rfl rfl ?_
        repeat' first
          | (refine RO.still (by apply Still.load; rfl; rfl; exact Rd.ro hmem; exact f2) hS rfl ?_)
          | (refine RO.still (by apply Still.load; rfl; rfl; exact Rd.ro hmem; exact f6) hS rfl ?_)
          | refine Run.seq ?_
          | refine Run.region ?_
          | (refine RO.split ?_ ?_ <;> intro hc <;> try (first | (exfalso; omega) | exact absurd rfl hc | exact Bool.noConfusion hc))
          | refine RO.nil ?_
          | refine RO.still (by exact Still.any) hS rfl ?_
          | (apply RO.op; apply OP.box hS; rfl; rfl; rfl; clear hS; intro b w1 hS)
          | (apply RO.op; apply OP.alloc hS; rfl; rfl; rfl; clear hS; intro b w1 hS)
          | (apply RO.op; apply OP.store hS; rfl; rfl; rfl; rfl; rfl; (focus ((repeat (first | apply Has.head | apply Take.head | apply Put.head | apply Has.tail | apply Take.tail | apply Put.tail)); done)); rfl; rfl; clear hS; intro w1 hS)
          | (apply RO.op; apply OP.buildSlice hS; rfl; rfl; (exact eqAuto); rfl; rfl; rfl; rfl; rfl; clear hS; intro b w1 hS)
          | (apply RO.op; apply OP.makeMap hS; rfl; clear hS; intro b w1 hS)
          | refine RO.yes rfl rfl ?_
          | refine RO.no rfl rfl rfl rfl ?_
          | refine RO.noUndef rfl rfl rfl ?_
          | refine RO.noNone rfl rfl rfl ?_
          | refine Run.cond_true rfl ?_
          | refine Run.cond_false rfl ?_
          | refine Run.skip ?_
          | refine Run.block ?_
          | refine Run.inBlock ?_
          | refine Run.exit rfl ?_
        refine Run.ret Try.func42 rfl (.tmp rfl .nil) ?_
        exact ⟨rfl, hS.picks (by focus ((repeat (first | apply Picks.all | apply Picks.nil | (refine Picks.cons (by repeat (first | apply Take.head | apply Take.tail)) ?_) | apply Picks.drop)); done))⟩
  · rw [if_neg (by rw [hsx]; exact hs)]
    cases sx <;> cases sent <;> first | (exact absurd rfl hs) | skip
    all_goals
      refine Run.calls4 (n := 45) Try.func42 rfl rfl rfl ?_
      repeat' first
        | (refine RO.still (by apply Still.load; rfl; rfl; exact Rd.ro hmem; exact f2) hS rfl ?_)
        | refine Run.seq ?_
        | refine Run.region ?_
        | (refine RO.split ?_ ?_ <;> intro hc <;> try (first | (exfalso; omega) | exact absurd rfl hc | exact Bool.noConfusion hc))
        | refine RO.nil ?_
        | refine RO.still (by exact Still.any) hS rfl ?_
        | (apply RO.op; apply OP.box hS; rfl; rfl; rfl; clear hS; intro b w1 hS)
        | (apply RO.op; apply OP.alloc hS; rfl; rfl; rfl; clear hS; intro b w1 hS)
        | (apply RO.op; apply OP.store hS; rfl; rfl; rfl; rfl; rfl; (focus ((repeat (first | apply Has.head | apply Take.head | apply Put.head | apply Has.tail | apply Take.tail | apply Put.tail)); done)); rfl; rfl; clear hS; intro w1 hS)
        | (apply RO.op; apply OP.buildSlice hS; rfl; rfl; (exact eqAuto); rfl; rfl; rfl; rfl; rfl; clear hS; intro b w1 hS)
        | (apply RO.op; apply OP.makeMap hS; rfl; clear hS; intro b w1 hS)
        | refine RO.yes rfl rfl ?_
        | refine RO.no rfl rfl rfl rfl ?_
        | refine RO.noUndef rfl rfl rfl ?_
        | refine RO.noNone rfl rfl rfl ?_
        | refine Run.cond_true rfl ?_
        | refine Run.cond_false rfl ?_
        | refine Run.skip ?_
        | refine Run.block ?_
        | refine Run.inBlock ?_
        | refine Run.exit rfl ?_
      refine Run.ret Try.func42 rfl (.tmp rfl .nil) ?_
      exact ⟨rfl, hS.picks (by focus ((repeat (first | apply Picks.all | apply Picks.nil | (refine Picks.cons (by repeat (first | apply Take.head | apply Take.tail)) ?_) | apply Picks.drop)); done))⟩

theorem forged_out (hl : Sl ρ tevL 13 v l) (hle : l.length ≤ 30) (hi : ¬ (0 ≤ i ∧ i < l.length)) (hS : St we ρ σ w) :
    Cl Try.prog 23 [u, v, .int .i64 i] w fun v w' => v = .bool false ∧ St we ρ σ w' := by
  obtain ⟨p1, c1, rfl, k1, k2, hrow⟩ := hl.val
  refine Run.calls3 (n := 23) Try.func23 rfl rfl rfl ?_
  repeat' first
    | (apply RO.op; apply OP.callF; rfl; rfl; rfl; show Cl _ 42 _ _ _; exact closed_out hl hle hi hS; clear hS; rintro v w1 ⟨rfl, hS⟩)
    | (apply OP.callF; rfl; rfl; rfl; show Cl _ 42 _ _ _; exact closed_out hl hle hi hS; clear hS; rintro v w1 ⟨rfl, hS⟩; refine ⟨(by first | exact hS | exact hS.tail | exact hS.sublist (by repeat (first | exact List.Sublist.refl _ | refine .cons_cons _ ?_ | refine .cons _ ?_))), ?_⟩)
    | refine Run.seq ?_
    | refine Run.region ?_
    | (refine RO.split ?_ ?_ <;> intro hc <;> try (first | (exfalso; omega) | exact absurd rfl hc | exact Bool.noConfusion hc))
    | refine RO.nil ?_
    | refine RO.still (by exact Still.any) hS rfl ?_
    | (apply RO.op; apply OP.box hS; rfl; rfl; rfl; clear hS; intro b w1 hS)
    | (apply RO.op; apply OP.alloc hS; rfl; rfl; rfl; clear hS; intro b w1 hS)
    | (apply RO.op; apply OP.store hS; rfl; rfl; rfl; rfl; rfl; (focus ((repeat (first | apply Has.head | apply Take.head | apply Put.head | apply Has.tail | apply Take.tail | apply Put.tail)); done)); rfl; rfl; clear hS; intro w1 hS)
    | (apply RO.op; apply OP.buildSlice hS; rfl; rfl; (exact eqAuto); rfl; rfl; rfl; rfl; rfl; clear hS; intro b w1 hS)
    | (apply RO.op; apply OP.makeMap hS; rfl; clear hS; intro b w1 hS)
    | refine RO.yes rfl rfl ?_
    | refine RO.no rfl rfl rfl rfl ?_
    | refine RO.noUndef rfl rfl rfl ?_
    | refine RO.noNone rfl rfl rfl ?_
    | refine Run.cond_true rfl ?_
    | refine Run.cond_false rfl ?_
    | refine Run.skip ?_
    | refine Run.block ?_
    | refine Run.inBlock ?_
    | refine Run.exit rfl ?_
  refine Run.ret Try.func23 rfl (.tmp rfl .nil) ?_
  exact ⟨rfl, hS⟩
theorem leaked_out (hl : Sl ρ tevL 13 v l) (hle : l.length ≤ 30) (hi : ¬ (0 ≤ i ∧ i < l.length)) (hS : St we ρ σ w) :
    Cl Try.prog 25 [u, v, .int .i64 i] w fun v w' => v = .bool false ∧ St we ρ σ w' := by
  obtain ⟨p1, c1, rfl, k1, k2, hrow⟩ := hl.val
  refine Run.calls3 (n := 21) Try.func25 rfl rfl rfl ?_
  repeat' first
    | (apply RO.op; apply OP.callF; rfl; rfl; rfl; show Cl _ 42 _ _ _; exact closed_out hl hle hi hS; clear hS; rintro v w1 ⟨rfl, hS⟩)
    | (apply OP.callF; rfl; rfl; rfl; show Cl _ 42 _ _ _; exact closed_out hl hle hi hS; clear hS; rintro v w1 ⟨rfl, hS⟩; refine ⟨(by first | exact hS | exact hS.tail | exact hS.sublist (by repeat (first | exact List.Sublist.refl _ | refine .cons_cons _ ?_ | refine .cons _ ?_))), ?_⟩)
    | refine Run.seq ?_
    | refine Run.region ?_
    | (refine RO.split ?_ ?_ <;> intro hc <;> try (first | (exfalso; omega) | exact absurd rfl hc | exact Bool.noConfusion hc))
    | refine RO.nil ?_
    | refine RO.still (by exact Still.any) hS rfl ?_
    | (apply RO.op; apply OP.box hS; rfl; rfl; rfl; clear hS; intro b w1 hS)
    | (apply RO.op; apply OP.alloc hS; rfl; rfl; rfl; clear hS; intro b w1 hS)
    | (apply RO.op; apply OP.store hS; rfl; rfl; rfl; rfl; rfl; (focus ((repeat (first | apply Has.head | apply Take.head | apply Put.head | apply Has.tail | apply Take.tail | apply Put.tail)); done)); rfl; rfl; clear hS; intro w1 hS)
    | (apply RO.op; apply OP.buildSlice hS; rfl; rfl; (exact eqAuto); rfl; rfl; rfl; rfl; rfl; clear hS; intro b w1 hS)
    | (apply RO.op; apply OP.makeMap hS; rfl; clear hS; intro b w1 hS)
    | refine RO.yes rfl rfl ?_
    | refine RO.no rfl rfl rfl rfl ?_
    | refine RO.noUndef rfl rfl rfl ?_
    | refine RO.noNone rfl rfl rfl ?_
    | refine Run.cond_true rfl ?_
    | refine Run.cond_false rfl ?_
    | refine Run.skip ?_
    | refine Run.block ?_
    | refine Run.inBlock ?_
    | refine Run.exit rfl ?_
  refine Run.ret Try.func25 rfl (.tmp rfl .nil) ?_
  exact ⟨rfl, hS⟩

theorem forged_in {m : Nat} {x : Ev} (hh : ∀ x, K x = true → has L x = true) (hl : Sl ρ tevL 13 v l) (hle : l.length ≤ 30) (hm : m < l.length) (hx : l[m] = x) (hS : St we ρ (KN kb p heard K :: Arena p lim L :: F) w) :
    Cl Try.prog 23 [.pointer (some ⟨kb, 0, none⟩), v, .int .i64 m] w fun v w' => v = .bool (forgedV l x (can L K x.key)) ∧ St we ρ (KN kb p heard K :: Arena p lim L :: F) w' := by
  have hclosed : ∀ {w : World} {F : List HP}, St we ρ (KN kb p heard K :: Arena p lim L :: F) w → _ := fun {w F} hS => closed_in (w := w) (F := F) (sent := false) hh hl hle hm hx hS
  obtain ⟨p1, c1, rfl, k1, k2, hrow⟩ := hl.val
  obtain ⟨b, off, cs, el, fr, rfl, hmem, hnd⟩ := hrow (by omega)
  have hni := hnd m hm
  rw [hx] at hni
  have f4 : cs[off + m * 13 + 4]? = some (.int .i64 x.part) := cell_at hni rfl
  have hhon := honestF_len l x.part 0
  change (honest l x.part).length ≤ _ at hhon
  unfold forgedV
  cases hc : closedV x false (can L K x.key) with
  | false =>
    simp only [hc] at hclosed
    refine Run.calls3 (n := 23) Try.func23 rfl rfl rfl ?_
    repeat' first
      | (apply RO.op; apply OP.callF; rfl; rfl; rfl; show Cl _ 42 _ _ _; exact hclosed (hS.take2 (by focus ((repeat (first | apply Has.head | apply Take.head | apply Put.head | apply Has.tail | apply Take.tail | apply Put.tail)); done)) (by focus ((repeat (first | apply Has.head | apply Take.head | apply Put.head | apply Has.tail | apply Take.tail | apply Put.tail)); done))); clear hS; rintro v w1 ⟨rfl, hS⟩)
      | (apply OP.callF; rfl; rfl; rfl; show Cl _ 42 _ _ _; exact hclosed (hS.take2 (by focus ((repeat (first | apply Has.head | apply Take.head | apply Put.head | apply Has.tail | apply Take.tail | apply Put.tail)); done)) (by focus ((repeat (first | apply Has.head | apply Take.head | apply Put.head | apply Has.tail | apply Take.tail | apply Put.tail)); done))); clear hS; rintro v w1 ⟨rfl, hS⟩; refine ⟨(by first | exact hS | exact hS.tail | exact hS.sublist (by repeat (first | exact List.Sublist.refl _ | refine .cons_cons _ ?_ | refine .cons _ ?_))), ?_⟩)
      | refine Run.seq ?_
      | refine Run.region ?_
      | (refine RO.split ?_ ?_ <;> intro hc <;> try (first | (exfalso; omega) | exact absurd rfl hc | exact Bool.noConfusion hc))
      | refine RO.nil ?_
      | refine RO.still (by exact Still.any) hS rfl ?_
      | (apply RO.op; apply OP.box hS; rfl; rfl; rfl; clear hS; intro b w1 hS)
      | (apply RO.op; apply OP.alloc hS; rfl; rfl; rfl; clear hS; intro b w1 hS)
      | (apply RO.op; apply OP.store hS; rfl; rfl; rfl; rfl; rfl; (focus ((repeat (first | apply Has.head | apply Take.head | apply Put.head | apply Has.tail | apply Take.tail | apply Put.tail)); done)); rfl; rfl; clear hS; intro w1 hS)
      | (apply RO.op; apply OP.buildSlice hS; rfl; rfl; (exact eqAuto); rfl; rfl; rfl; rfl; rfl; clear hS; intro b w1 hS)
      | (apply RO.op; apply OP.makeMap hS; rfl; clear hS; intro b w1 hS)
      | refine RO.yes rfl rfl ?_
      | refine RO.no rfl rfl rfl rfl ?_
      | refine RO.noUndef rfl rfl rfl ?_
      | refine RO.noNone rfl rfl rfl ?_
      | refine Run.cond_true rfl ?_
      | refine Run.cond_false rfl ?_
      | refine Run.skip ?_
      | refine Run.block ?_
      | refine Run.inBlock ?_
      | refine Run.exit rfl ?_
    refine Run.ret Try.func23 rfl (.tmp rfl .nil) ?_
    exact ⟨rfl, hS.picks (by focus ((repeat (first | apply Picks.all | apply Picks.nil | (refine Picks.cons (by repeat (first | apply Take.head | apply Take.tail)) ?_) | apply Picks.drop)); done))⟩
  | true =>
    simp only [hc] at hclosed
    rw [Bool.true_and]
    by_cases hz : ((honest l x.part).length : Int) = 0
    · rw [decide_eq_true hz]
      refine Run.calls3 (n := 23) Try.func23 rfl rfl rfl ?_
      repeat' first
        | (apply RO.op; apply OP.callF; rfl; rfl; rfl; show Cl _ 42 _ _ _; exact hclosed (hS.take2 (by focus ((repeat (first | apply Has.head | apply Take.head | apply Put.head | apply Has.tail | apply Take.tail | apply Put.tail)); done)) (by focus ((repeat (first | apply Has.head | apply Take.head | apply Put.head | apply Has.tail | apply Take.tail | apply Put.tail)); done))); clear hS; rintro v w1 ⟨rfl, hS⟩)
        | (apply OP.callF; rfl; rfl; rfl; show Cl _ 42 _ _ _; exact hclosed (hS.take2 (by focus ((repeat (first | apply Has.head | apply Take.head | apply Put.head | apply Has.tail | apply Take.tail | apply Put.tail)); done)) (by focus ((repeat (first | apply Has.head | apply Take.head | apply Put.head | apply Has.tail | apply Take.tail | apply Put.tail)); done))); clear hS; rintro v w1 ⟨rfl, hS⟩; refine ⟨(by first | exact hS | exact hS.tail | exact hS.sublist (by repeat (first | exact List.Sublist.refl _ | refine .cons_cons _ ?_ | refine .cons _ ?_))), ?_⟩)
        | (apply RO.op; apply OP.callF; rfl; rfl; rfl; show Cl _ 15 _ _ _; exact honest_calls hl hle hS; clear hS; intro v2 w1 hS; obtain ⟨ph, ch, rfl⟩ := vec_slice hS)
        | (apply OP.callF; rfl; rfl; rfl; show Cl _ 15 _ _ _; exact honest_calls hl hle hS; clear hS; intro v2 w1 hS; obtain ⟨ph, ch, rfl⟩ := vec_slice hS; refine ⟨(by first | exact hS | exact hS.tail | exact hS.sublist (by repeat (first | exact List.Sublist.refl _ | refine .cons_cons _ ?_ | refine .cons _ ?_))), ?_⟩)
        | (refine RO.still (by apply Still.load; rfl; rfl; exact Rd.ro hmem; exact f4) hS rfl ?_)
        | refine Run.seq ?_
        | refine Run.region ?_
        | (refine RO.split ?_ ?_ <;> intro hc <;> try (first | (exfalso; omega) | exact absurd rfl hc | exact Bool.noConfusion hc))
        | refine RO.nil ?_
        | refine RO.still (by exact Still.any) hS rfl ?_
        | (apply RO.op; apply OP.box hS; rfl; rfl; rfl; clear hS; intro b w1 hS)
        | (apply RO.op; apply OP.alloc hS; rfl; rfl; rfl; clear hS; intro b w1 hS)
        | (apply RO.op; apply OP.store hS; rfl; rfl; rfl; rfl; rfl; (focus ((repeat (first | apply Has.head | apply Take.head | apply Put.head | apply Has.tail | apply Take.tail | apply Put.tail)); done)); rfl; rfl; clear hS; intro w1 hS)
        | (apply RO.op; apply OP.buildSlice hS; rfl; rfl; (exact eqAuto); rfl; rfl; rfl; rfl; rfl; clear hS; intro b w1 hS)
        | (apply RO.op; apply OP.makeMap hS; rfl; clear hS; intro b w1 hS)
        | refine RO.yes rfl rfl ?_
        | refine RO.no rfl rfl rfl rfl ?_
        | refine RO.noUndef rfl rfl rfl ?_
        | refine RO.noNone rfl rfl rfl ?_
        | refine Run.cond_true rfl ?_
        | refine Run.cond_false rfl ?_
        | refine Run.skip ?_
        | refine Run.block ?_
        | refine Run.inBlock ?_
        | refine Run.exit rfl ?_
      refine Run.ret Try.func23 rfl (.tmp rfl .nil) ?_
      exact ⟨rfl, hS.picks (by focus ((repeat (first | apply Picks.all | apply Picks.nil | (refine Picks.cons (by repeat (first | apply Take.head | apply Take.tail)) ?_) | apply Picks.drop)); done))⟩
    · rw [decide_eq_false hz]
      refine Run.calls3 (n := 23) Try.func23 rfl rfl rfl ?_
      repeat' first
        | (apply RO.op; apply OP.callF; rfl; rfl; rfl; show Cl _ 42 _ _ _; exact hclosed (hS.take2 (by focus ((repeat (first | apply Has.head | apply Take.head | apply Put.head | apply Has.tail | apply Take.tail | apply Put.tail)); done)) (by focus ((repeat (first | apply Has.head | apply Take.head | apply Put.head | apply Has.tail | apply Take.tail | apply Put.tail)); done))); clear hS; rintro v w1 ⟨rfl, hS⟩)
        | (apply OP.callF; rfl; rfl; rfl; show Cl _ 42 _ _ _; exact hclosed (hS.take2 (by focus ((repeat (first | apply Has.head | apply Take.head | apply Put.head | apply Has.tail | apply Take.tail | apply Put.tail)); done)) (by focus ((repeat (first | apply Has.head | apply Take.head | apply Put.head | apply Has.tail | apply Take.tail | apply Put.tail)); done))); clear hS; rintro v w1 ⟨rfl, hS⟩; refine ⟨(by first | exact hS | exact hS.tail | exact hS.sublist (by repeat (first | exact List.Sublist.refl _ | refine .cons_cons _ ?_ | refine .cons _ ?_))), ?_⟩)
        | (apply RO.op; apply OP.callF; rfl; rfl; rfl; show Cl _ 15 _ _ _; exact honest_calls hl hle hS; clear hS; intro v2 w1 hS; obtain ⟨ph, ch, rfl⟩ := vec_slice hS)
        | (apply OP.callF; rfl; rfl; rfl; show Cl _ 15 _ _ _; exact honest_calls hl hle hS; clear hS; intro v2 w1 hS; obtain ⟨ph, ch, rfl⟩ := vec_slice hS; refine ⟨(by first | exact hS | exact hS.tail | exact hS.sublist (by repeat (first | exact List.Sublist.refl _ | refine .cons_cons _ ?_ | refine .cons _ ?_))), ?_⟩)
        | (refine RO.still (by apply Still.load; rfl; rfl; exact Rd.ro hmem; exact f4) hS rfl ?_)
        | refine Run.seq ?_
        | refine Run.region ?_
        | (refine RO.split ?_ ?_ <;> intro hc <;> try (first | (exfalso; omega) | exact absurd rfl hc | exact Bool.noConfusion hc))
        | refine RO.nil ?_
        | refine RO.still (by exact Still.any) hS rfl ?_
        | (apply RO.op; apply OP.box hS; rfl; rfl; rfl; clear hS; intro b w1 hS)
        | (apply RO.op; apply OP.alloc hS; rfl; rfl; rfl; clear hS; intro b w1 hS)
        | (apply RO.op; apply OP.store hS; rfl; rfl; rfl; rfl; rfl; (focus ((repeat (first | apply Has.head | apply Take.head | apply Put.head | apply Has.tail | apply Take.tail | apply Put.tail)); done)); rfl; rfl; clear hS; intro w1 hS)
        | (apply RO.op; apply OP.buildSlice hS; rfl; rfl; (exact eqAuto); rfl; rfl; rfl; rfl; rfl; clear hS; intro b w1 hS)
        | (apply RO.op; apply OP.makeMap hS; rfl; clear hS; intro b w1 hS)
        | refine RO.yes rfl rfl ?_
        | refine RO.no rfl rfl rfl rfl ?_
        | refine RO.noUndef rfl rfl rfl ?_
        | refine RO.noNone rfl rfl rfl ?_
        | refine Run.cond_true rfl ?_
        | refine Run.cond_false rfl ?_
        | refine Run.skip ?_
        | refine Run.block ?_
        | refine Run.inBlock ?_
        | refine Run.exit rfl ?_
      refine Run.ret Try.func23 rfl (.tmp rfl .nil) ?_
      exact ⟨rfl, hS.picks (by focus ((repeat (first | apply Picks.all | apply Picks.nil | (refine Picks.cons (by repeat (first | apply Take.head | apply Take.tail)) ?_) | apply Picks.drop)); done))⟩

theorem leaked_in {m : Nat} {x : Ev} (hh : ∀ x, K x = true → has L x = true) (hl : Sl ρ tevL 13 v l) (hle : l.length ≤ 30) (hm : m < l.length) (hx : l[m] = x) (hS : St we ρ (KN kb p heard K :: Arena p lim L :: F) w) :
    Cl Try.prog 25 [.pointer (some ⟨kb, 0, none⟩), v, .int .i64 m] w fun v w' => v = .bool (leakedV x (can L K x.key) (can L K x.payload)) ∧ St we ρ (KN kb p heard K :: Arena p lim L :: F) w' := by
  have hclosed : ∀ {w : World} {F : List HP}, St we ρ (KN kb p heard K :: Arena p lim L :: F) w → _ := fun {w F} hS => closed_in (w := w) (F := F) (sent := true) hh hl hle hm hx hS
  obtain ⟨p1, c1, rfl, k1, k2, hrow⟩ := hl.val
  obtain ⟨b, off, cs, el, fr, rfl, hmem, hnd⟩ := hrow (by omega)
  have hni := hnd m hm
  rw [hx] at hni
  have f5 : cs[off + m * 13 + 5]? = some (.int .i64 x.payload) := cell_at hni rfl
  unfold leakedV
  cases hc : closedV x true (can L K x.key) with
  | false =>
    simp only [hc] at hclosed
    refine Run.calls3 (n := 21) Try.func25 rfl rfl rfl ?_
    repeat' first
      | (apply RO.op; apply OP.callF; rfl; rfl; rfl; show Cl _ 42 _ _ _; exact hclosed (hS.take2 (by focus ((repeat (first | apply Has.head | apply Take.head | apply Put.head | apply Has.tail | apply Take.tail | apply Put.tail)); done)) (by focus ((repeat (first | apply Has.head | apply Take.head | apply Put.head | apply Has.tail | apply Take.tail | apply Put.tail)); done))); clear hS; rintro v w1 ⟨rfl, hS⟩)
      | (apply OP.callF; rfl; rfl; rfl; show Cl _ 42 _ _ _; exact hclosed (hS.take2 (by focus ((repeat (first | apply Has.head | apply Take.head | apply Put.head | apply Has.tail | apply Take.tail | apply Put.tail)); done)) (by focus ((repeat (first | apply Has.head | apply Take.head | apply Put.head | apply Has.tail | apply Take.tail | apply Put.tail)); done))); clear hS; rintro v w1 ⟨rfl, hS⟩; refine ⟨(by first | exact hS | exact hS.tail | exact hS.sublist (by repeat (first | exact List.Sublist.refl _ | refine .cons_cons _ ?_ | refine .cons _ ?_))), ?_⟩)
      | refine Run.seq ?_
      | refine Run.region ?_
      | (refine RO.split ?_ ?_ <;> intro hc <;> try (first | (exfalso; omega) | exact absurd rfl hc | exact Bool.noConfusion hc))
      | refine RO.nil ?_
      | refine RO.still (by exact Still.any) hS rfl ?_
      | (apply RO.op; apply OP.box hS; rfl; rfl; rfl; clear hS; intro b w1 hS)
      | (apply RO.op; apply OP.alloc hS; rfl; rfl; rfl; clear hS; intro b w1 hS)
      | (apply RO.op; apply OP.store hS; rfl; rfl; rfl; rfl; rfl; (focus ((repeat (first | apply Has.head | apply Take.head | apply Put.head | apply Has.tail | apply Take.tail | apply Put.tail)); done)); rfl; rfl; clear hS; intro w1 hS)
      | (apply RO.op; apply OP.buildSlice hS; rfl; rfl; (exact eqAuto); rfl; rfl; rfl; rfl; rfl; clear hS; intro b w1 hS)
      | (apply RO.op; apply OP.makeMap hS; rfl; clear hS; intro b w1 hS)
      | refine RO.yes rfl rfl ?_
      | refine RO.no rfl rfl rfl rfl ?_
      | refine RO.noUndef rfl rfl rfl ?_
      | refine RO.noNone rfl rfl rfl ?_
      | refine Run.cond_true rfl ?_
      | refine Run.cond_false rfl ?_
      | refine Run.skip ?_
      | refine Run.block ?_
      | refine Run.inBlock ?_
      | refine Run.exit rfl ?_
    refine Run.ret Try.func25 rfl (.tmp rfl .nil) ?_
    exact ⟨rfl, hS.picks (by focus ((repeat (first | apply Picks.all | apply Picks.nil | (refine Picks.cons (by repeat (first | apply Take.head | apply Take.tail)) ?_) | apply Picks.drop)); done))⟩
  | true =>
    simp only [hc] at hclosed
    rw [Bool.true_and]
    cases hcan : can L K x.payload
    all_goals
      refine Run.calls3 (n := 21) Try.func25 rfl rfl rfl ?_
      repeat' first
        | (apply RO.op; apply OP.callF; rfl; rfl; rfl; show Cl _ 42 _ _ _; exact hclosed (hS.take2 (by focus ((repeat (first | apply Has.head | apply Take.head | apply Put.head | apply Has.tail | apply Take.tail | apply Put.tail)); done)) (by focus ((repeat (first | apply Has.head | apply Take.head | apply Put.head | apply Has.tail | apply Take.tail | apply Put.tail)); done))); clear hS; rintro v w1 ⟨rfl, hS⟩)
        | (apply OP.callF; rfl; rfl; rfl; show Cl _ 42 _ _ _; exact hclosed (hS.take2 (by focus ((repeat (first | apply Has.head | apply Take.head | apply Put.head | apply Has.tail | apply Take.tail | apply Put.tail)); done)) (by focus ((repeat (first | apply Has.head | apply Take.head | apply Put.head | apply Has.tail | apply Take.tail | apply Put.tail)); done))); clear hS; rintro v w1 ⟨rfl, hS⟩; refine ⟨(by first | exact hS | exact hS.tail | exact hS.sublist (by repeat (first | exact List.Sublist.refl _ | refine .cons_cons _ ?_ | refine .cons _ ?_))), ?_⟩)
        | (apply RO.op; apply OP.callF; rfl; rfl; rfl; show Cl _ 43 _ _ _; exact kcan_is hh hcan (hS.take2 (by focus ((repeat (first | apply Has.head | apply Take.head | apply Put.head | apply Has.tail | apply Take.tail | apply Put.tail)); done)) (by focus ((repeat (first | apply Has.head | apply Take.head | apply Put.head | apply Has.tail | apply Take.tail | apply Put.tail)); done))); clear hS; rintro v w1 ⟨rfl, hS⟩)
        | (apply OP.callF; rfl; rfl; rfl; show Cl _ 43 _ _ _; exact kcan_is hh hcan (hS.take2 (by focus ((repeat (first | apply Has.head | apply Take.head | apply Put.head | apply Has.tail | apply Take.tail | apply Put.tail)); done)) (by focus ((repeat (first | apply Has.head | apply Take.head | apply Put.head | apply Has.tail | apply Take.tail | apply Put.tail)); done))); clear hS; rintro v w1 ⟨rfl, hS⟩; refine ⟨(by first | exact hS | exact hS.tail | exact hS.sublist (by repeat (first | exact List.Sublist.refl _ | refine .cons_cons _ ?_ | refine .cons _ ?_))), ?_⟩)
        | (refine RO.still (by apply Still.load; rfl; rfl; exact Rd.ro hmem; exact f5) hS rfl ?_)
        | refine Run.seq ?_
        | refine Run.region ?_
        | (refine RO.split ?_ ?_ <;> intro hc <;> try (first | (exfalso; omega) | exact absurd rfl hc | exact Bool.noConfusion hc))
        | refine RO.nil ?_
        | refine RO.still (by exact Still.any) hS rfl ?_
        | (apply RO.op; apply OP.box hS; rfl; rfl; rfl; clear hS; intro b w1 hS)
        | (apply RO.op; apply OP.alloc hS; rfl; rfl; rfl; clear hS; intro b w1 hS)
        | (apply RO.op; apply OP.store hS; rfl; rfl; rfl; rfl; rfl; (focus ((repeat (first | apply Has.head | apply Take.head | apply Put.head | apply Has.tail | apply Take.tail | apply Put.tail)); done)); rfl; rfl; clear hS; intro w1 hS)
        | (apply RO.op; apply OP.buildSlice hS; rfl; rfl; (exact eqAuto); rfl; rfl; rfl; rfl; rfl; clear hS; intro b w1 hS)
        | (apply RO.op; apply OP.makeMap hS; rfl; clear hS; intro b w1 hS)
        | refine RO.yes rfl rfl ?_
        | refine RO.no rfl rfl rfl rfl ?_
        | refine RO.noUndef rfl rfl rfl ?_
        | refine RO.noNone rfl rfl rfl ?_
        | refine Run.cond_true rfl ?_
        | refine Run.cond_false rfl ?_
        | refine Run.skip ?_
        | refine Run.block ?_
        | refine Run.inBlock ?_
        | refine Run.exit rfl ?_
      refine Run.ret Try.func25 rfl (.tmp rfl .nil) ?_
      exact ⟨rfl, hS.picks (by focus ((repeat (first | apply Picks.all | apply Picks.nil | (refine Picks.cons (by repeat (first | apply Take.head | apply Take.tail)) ?_) | apply Picks.drop)); done))⟩
end
end Go.Proofs.Ytcigkkedffggiaa
