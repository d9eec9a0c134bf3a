/-
  The document's answer for the layer of traces: Honest, Forged, Leaked.
-/
import Derived.Test.YtcigkkedffggiaaTrace2
namespace Go.Proofs.Ytcigkkedffggiaa
set_option maxRecDepth 8000
set_option linter.unusedSimpArgs false
set_option linter.unusedVariables false
open Go Go.RowKit

section
variable {we w : World} {ρ : List (Nat × Obj)} {σ F : List HP} {kb p lim lim' r cap : Nat} {L : List Nd} {K : Int → Bool} {u v : Value} {spare : List Value} {heard : List Int} {l : List Ev} {i : Int}

set_option maxHeartbeats 2000000 in
theorem refHonest {part : Int} (hl : Sl ρ evL 4 v l) (hle : l.length ≤ 30) (hS : St we ρ σ w) :
    Cl Try.prog 27 [v, .int .i64 part] w fun v w' => St we ρ (Vec 3 1 v (honest l part).length ((honest l part).flatMap intL) :: σ) w' := by
  obtain ⟨p1, c1, rfl, k1, k2, hrow⟩ := hl.val
  unfold maxLen at k2
  refine Run.calls2 (n := 32) Try.func27 rfl rfl rfl ?_
  repeat' first
    | refine Run.seq ?_
    | refine Run.region ?_
    | (refine RO.split ?_ ?_ <;> intro hc <;> try (first | (exfalso; omega) | exact absurd rfl hc | exact Bool.noConfusion hc))
    | refine RO.nil ?_
    | refine RO.still (by exact Still.any) hS rfl ?_
    | (apply RO.op; apply OP.box hS; rfl; rfl; rfl; clear hS; intro b w1 hS)
    | (apply RO.op; apply OP.alloc hS; rfl; rfl; rfl; clear hS; intro b w1 hS)
    | (apply RO.op; apply OP.store hS; rfl; rfl; rfl; rfl; rfl; (focus ((repeat (first | apply Has.head | apply Take.head | apply Put.head | apply Has.tail | apply Take.tail | apply Put.tail)); done)); rfl; rfl; clear hS; intro w1 hS)
    | (apply RO.op; apply OP.buildSlice hS; rfl; rfl; (exact eqAuto); rfl; rfl; rfl; rfl; rfl; clear hS; intro b w1 hS)
    | (apply RO.op; apply OP.makeMap hS; rfl; clear hS; intro b w1 hS)
    | refine RO.yes rfl rfl ?_
    | refine RO.no rfl rfl rfl rfl ?_
    | refine RO.noUndef rfl rfl rfl ?_
    | refine RO.noNone rfl rfl rfl ?_
    | refine Run.cond_true rfl ?_
    | refine Run.cond_false rfl ?_
    | refine Run.skip ?_
    | refine Run.block ?_
    | refine Run.inBlock ?_
    | refine Run.exit rfl ?_
  refine Run.while (fun q : Nat × Value => [(0, .slice p1 l.length c1), (1, .int .i64 part), (5, q.2), (6, .int .i64 q.1)])
    (fun q w => q.1 ≤ l.length ∧ St we ρ (Vec 3 1 q.2 (honest (l.take q.1) part).length ((honest (l.take q.1) part).flatMap intL) :: σ) w) (fun q => l.length - q.1) (0, .slice none 0 0) ⟨by simp, by exact vec_nil hS⟩ (by focus ((repeat (first | exact .nil | refine .cons rfl ?_)); done)) ?_
  clear hS
  rintro ⟨i, v⟩ w ⟨hi, hS⟩ ih
  simp only at hi hS ih ⊢
  by_cases hlt : i < l.length
  · obtain ⟨bb, off, cs, el, fr, rfl, hmem, hnd⟩ := hrow (by omega)
    have hni := hnd i hlt
    have hht := honest_take (part := part) hlt
    have hln := honestF_len (l.take i) part 0
    rw [List.length_take] at hln
    change (honest (l.take i) part).length ≤ _ at hln
    generalize l[i] = x at hni hht
    have g0 : cs[off + i * 4]? = some (.bool x.sent) := cell_at (j := 0) hni rfl
    have g1 : cs[off + i * 4 + 1]? = some (.int .i64 x.part) := cell_at hni rfl
    generalize honest (l.take i) part = out at hS hht hln
    obtain ⟨sent, pt, pay, key⟩ := x
    simp only at g0 g1 hht
    by_cases hc : sent = true ∧ pt = part
    · rw [if_pos hc] at hht
      obtain ⟨rfl, rfl⟩ := hc
      repeat' first
        | (refine RO.still (by apply Still.load; rfl; rfl; exact Rd.ro hmem; exact g0) hS rfl ?_)
        | (refine RO.still (by apply Still.load; rfl; rfl; exact Rd.ro hmem; exact g1) hS rfl ?_)
        | (apply RO.op; apply OP.append (size := 1) (bytes := 8) (k := 1) (news := [.int .i64 i]) hS; rfl; rfl; rfl; rfl; rfl; rfl; rfl; rfl; exact (by omega); (focus ((repeat (first | apply Has.head | apply Take.head | apply Put.head | apply Has.tail | apply Take.tail | apply Put.tail)); done)); (exact Rd.any); rfl; rfl; exact (by intro v hv; simp at hv; subst hv; rfl); (exact (by unfold maxLen; omega)); (exact (by omega)); rfl
           clear hS; intro v2 w1 hS)
        | refine Run.seq ?_
        | refine Run.region ?_
        | (refine RO.split ?_ ?_ <;> intro hc <;> try (first | (exfalso; omega) | exact absurd rfl hc | exact Bool.noConfusion hc))
        | refine RO.nil ?_
        | refine RO.still (by exact Still.any) hS rfl ?_
        | (apply RO.op; apply OP.box hS; rfl; rfl; rfl; clear hS; intro b w1 hS)
        | (apply RO.op; apply OP.alloc hS; rfl; rfl; rfl; clear hS; intro b w1 hS)
        | (apply RO.op; apply OP.store hS; rfl; rfl; rfl; rfl; rfl; (focus ((repeat (first | apply Has.head | apply Take.head | apply Put.head | apply Has.tail | apply Take.tail | apply Put.tail)); done)); rfl; rfl; clear hS; intro w1 hS)
        | (apply RO.op; apply OP.buildSlice hS; rfl; rfl; (exact eqAuto); rfl; rfl; rfl; rfl; rfl; clear hS; intro b w1 hS)
        | (apply RO.op; apply OP.makeMap hS; rfl; clear hS; intro b w1 hS)
        | refine RO.yes rfl rfl ?_
        | refine RO.no rfl rfl rfl rfl ?_
        | refine RO.noUndef rfl rfl rfl ?_
        | refine RO.noNone rfl rfl rfl ?_
        | refine Run.cond_true rfl ?_
        | refine Run.cond_false rfl ?_
        | refine Run.skip ?_
        | refine Run.block ?_
        | refine Run.inBlock ?_
        | refine Run.exit rfl ?_
      refine Run.weaken (by focus ((repeat (first | exact .nil | refine .cons rfl ?_)); done)) (ih (i + 1, v2) _ ⟨by simp; omega, ?_⟩ (by simp; omega))
      simp only [hht]
      rw [List.length_append, List.flatMap_append]
      exact hS.picks (by focus ((repeat (first | apply Picks.all | apply Picks.nil | (refine Picks.cons (by repeat (first | apply Take.head | apply Take.tail)) ?_) | apply Picks.drop)); done))
    · rw [if_neg hc, List.append_nil] at hht
      have hc2 : sent = true → ¬ pt = part := fun h1 h2 => hc ⟨h1, h2⟩
      cases sent
      all_goals
        (try have hc3 := hc2 rfl)
        repeat' first
          | (refine RO.still (by apply Still.load; rfl; rfl; exact Rd.ro hmem; exact g0) hS rfl ?_)
          | (refine RO.still (by apply Still.load; rfl; rfl; exact Rd.ro hmem; exact g1) hS rfl ?_)
          | refine Run.seq ?_
          | refine Run.region ?_
          | (refine RO.split ?_ ?_ <;> intro hc <;> try (first | (exfalso; omega) | exact absurd rfl hc | exact Bool.noConfusion hc))
          | refine RO.nil ?_
          | refine RO.still (by exact Still.any) hS rfl ?_
          | (apply RO.op; apply OP.box hS; rfl; rfl; rfl; clear hS; intro b w1 hS)
          | (apply RO.op; apply OP.alloc hS; rfl; rfl; rfl; clear hS; intro b w1 hS)
          | (apply RO.op; apply OP.store hS; rfl; rfl; rfl; rfl; rfl; (focus ((repeat (first | apply Has.head | apply Take.head | apply Put.head | apply Has.tail | apply Take.tail | apply Put.tail)); done)); rfl; rfl; clear hS; intro w1 hS)
          | (apply RO.op; apply OP.buildSlice hS; rfl; rfl; (exact eqAuto); rfl; rfl; rfl; rfl; rfl; clear hS; intro b w1 hS)
          | (apply RO.op; apply OP.makeMap hS; rfl; clear hS; intro b w1 hS)
          | refine RO.yes rfl rfl ?_
          | refine RO.no rfl rfl rfl rfl ?_
          | refine RO.noUndef rfl rfl rfl ?_
          | refine RO.noNone rfl rfl rfl ?_
          | refine Run.cond_true rfl ?_
          | refine Run.cond_false rfl ?_
          | refine Run.skip ?_
          | refine Run.block ?_
          | refine Run.inBlock ?_
          | refine Run.exit rfl ?_
        refine Run.weaken (by focus ((repeat (first | exact .nil | refine .cons rfl ?_)); done)) (ih (i + 1, v) _ ⟨by simp; omega, ?_⟩ (by simp; omega))
        simp only [hht]
        exact hS.picks (by focus ((repeat (first | apply Picks.all | apply Picks.nil | (refine Picks.cons (by repeat (first | apply Take.head | apply Take.tail)) ?_) | apply Picks.drop)); done))
  · obtain rfl : i = l.length := by omega
    rw [List.take_of_length_le (Nat.le_refl _)] at hS
    repeat' first
      | refine Run.seq ?_
      | refine Run.region ?_
      | (refine RO.split ?_ ?_ <;> intro hc <;> try (first | (exfalso; omega) | exact absurd rfl hc | exact Bool.noConfusion hc))
      | refine RO.nil ?_
      | refine RO.still (by exact Still.any) hS rfl ?_
      | (apply RO.op; apply OP.box hS; rfl; rfl; rfl; clear hS; intro b w1 hS)
      | (apply RO.op; apply OP.alloc hS; rfl; rfl; rfl; clear hS; intro b w1 hS)
      | (apply RO.op; apply OP.store hS; rfl; rfl; rfl; rfl; rfl; (focus ((repeat (first | apply Has.head | apply Take.head | apply Put.head | apply Has.tail | apply Take.tail | apply Put.tail)); done)); rfl; rfl; clear hS; intro w1 hS)
      | (apply RO.op; apply OP.buildSlice hS; rfl; rfl; (exact eqAuto); rfl; rfl; rfl; rfl; rfl; clear hS; intro b w1 hS)
      | (apply RO.op; apply OP.makeMap hS; rfl; clear hS; intro b w1 hS)
      | refine RO.yes rfl rfl ?_
      | refine RO.no rfl rfl rfl rfl ?_
      | refine RO.noUndef rfl rfl rfl ?_
      | refine RO.noNone rfl rfl rfl ?_
      | refine Run.cond_true rfl ?_
      | refine Run.cond_false rfl ?_
      | refine Run.skip ?_
      | refine Run.block ?_
      | refine Run.inBlock ?_
      | refine Run.exit rfl ?_
    refine Run.ret Try.func27 rfl (.tmp rfl .nil) ?_
    exact hS.picks (by focus ((repeat (first | apply Picks.all | apply Picks.nil | (refine Picks.cons (by repeat (first | apply Take.head | apply Take.tail)) ?_) | apply Picks.drop)); done))

theorem refForged_out (hl : Sl ρ evL 4 v l) (hle : l.length ≤ 30) (hi : ¬ (0 ≤ i ∧ i < l.length)) (hS : St we ρ σ w) :
    Cl Try.prog 24 [raV lim' r L.length cap, u, v, .int .i64 i] w fun v w' => v = .bool false ∧ St we ρ σ w' := by
  obtain ⟨p1, c1, rfl, k1, k2, hrow⟩ := hl.val
  by_cases h0 : i < 0
  · refine Run.calls4 (n := 61) Try.func24 rfl rfl rfl ?_
    repeat' first
      | refine Run.seq ?_
      | refine Run.region ?_
      | (refine RO.split ?_ ?_ <;> intro hc <;> try (first | (exfalso; omega) | exact absurd rfl hc | exact Bool.noConfusion hc))
      | refine RO.nil ?_
      | refine RO.still (by exact Still.any) hS rfl ?_
      | (apply RO.op; apply OP.box hS; rfl; rfl; rfl; clear hS; intro b w1 hS)
      | (apply RO.op; apply OP.alloc hS; rfl; rfl; rfl; clear hS; intro b w1 hS)
      | (apply RO.op; apply OP.store hS; rfl; rfl; rfl; rfl; rfl; (focus ((repeat (first | apply Has.head | apply Take.head | apply Put.head | apply Has.tail | apply Take.tail | apply Put.tail)); done)); rfl; rfl; clear hS; intro w1 hS)
      | (apply RO.op; apply OP.buildSlice hS; rfl; rfl; (exact eqAuto); rfl; rfl; rfl; rfl; rfl; clear hS; intro b w1 hS)
      | (apply RO.op; apply OP.makeMap hS; rfl; clear hS; intro b w1 hS)
      | refine RO.yes rfl rfl ?_
      | refine RO.no rfl rfl rfl rfl ?_
      | refine RO.noUndef rfl rfl rfl ?_
      | refine RO.noNone rfl rfl rfl ?_
      | refine Run.cond_true rfl ?_
      | refine Run.cond_false rfl ?_
      | refine Run.skip ?_
      | refine Run.block ?_
      | refine Run.inBlock ?_
      | refine Run.exit rfl ?_
    refine Run.ret Try.func24 rfl (.tmp rfl .nil) ?_
    exact ⟨rfl, hS.picks (by focus ((repeat (first | apply Picks.all | apply Picks.nil | (refine Picks.cons (by repeat (first | apply Take.head | apply Take.tail)) ?_) | apply Picks.drop)); done))⟩
  · have h1 : (l.length : Int) ≤ i := by omega
    refine Run.calls4 (n := 61) Try.func24 rfl rfl rfl ?_
    repeat' first
      | refine Run.seq ?_
      | refine Run.region ?_
      | (refine RO.split ?_ ?_ <;> intro hc <;> try (first | (exfalso; omega) | exact absurd rfl hc | exact Bool.noConfusion hc))
      | refine RO.nil ?_
      | refine RO.still (by exact Still.any) hS rfl ?_
      | (apply RO.op; apply OP.box hS; rfl; rfl; rfl; clear hS; intro b w1 hS)
      | (apply RO.op; apply OP.alloc hS; rfl; rfl; rfl; clear hS; intro b w1 hS)
      | (apply RO.op; apply OP.store hS; rfl; rfl; rfl; rfl; rfl; (focus ((repeat (first | apply Has.head | apply Take.head | apply Put.head | apply Has.tail | apply Take.tail | apply Put.tail)); done)); rfl; rfl; clear hS; intro w1 hS)
      | (apply RO.op; apply OP.buildSlice hS; rfl; rfl; (exact eqAuto); rfl; rfl; rfl; rfl; rfl; clear hS; intro b w1 hS)
      | (apply RO.op; apply OP.makeMap hS; rfl; clear hS; intro b w1 hS)
      | refine RO.yes rfl rfl ?_
      | refine RO.no rfl rfl rfl rfl ?_
      | refine RO.noUndef rfl rfl rfl ?_
      | refine RO.noNone rfl rfl rfl ?_
      | refine Run.cond_true rfl ?_
      | refine Run.cond_false rfl ?_
      | refine Run.skip ?_
      | refine Run.block ?_
      | refine Run.inBlock ?_
      | refine Run.exit rfl ?_
    refine Run.ret Try.func24 rfl (.tmp rfl .nil) ?_
    exact ⟨rfl, hS.picks (by focus ((repeat (first | apply Picks.all | apply Picks.nil | (refine Picks.cons (by repeat (first | apply Take.head | apply Take.tail)) ?_) | apply Picks.drop)); done))⟩
theorem refLeaked_out (hl : Sl ρ evL 4 v l) (hle : l.length ≤ 30) (hi : ¬ (0 ≤ i ∧ i < l.length)) (hS : St we ρ σ w) :
    Cl Try.prog 26 [raV lim' r L.length cap, u, v, .int .i64 i] w fun v w' => v = .bool false ∧ St we ρ σ w' := by
  obtain ⟨p1, c1, rfl, k1, k2, hrow⟩ := hl.val
  by_cases h0 : i < 0
  · refine Run.calls4 (n := 71) Try.func26 rfl rfl rfl ?_
    repeat' first
      | (refine Run.regionQ_of hS (by rfl) (by kernel_rfl) ?_; clear hS)
      | (refine RQ.split ?_ ?_ <;> intro hc <;> try (first | (exfalso; omega) | exact absurd rfl hc | exact Bool.noConfusion hc))
      | (refine RQ.nil ?_; (try clear hS); intro w1 hS)
      | refine RQ.still (by exact Still.any) rfl ?_
      | refine RQ.yes rfl rfl ?_
      | refine RQ.no rfl rfl rfl rfl ?_
      | refine RQ.noUndef rfl rfl rfl ?_
      | refine Run.seq ?_
      | refine Run.region ?_
      | (refine RO.split ?_ ?_ <;> intro hc <;> try (first | (exfalso; omega) | exact absurd rfl hc | exact Bool.noConfusion hc))
      | refine RO.nil ?_
      | refine RO.still (by exact Still.any) hS rfl ?_
      | (apply RO.op; apply OP.box hS; rfl; rfl; rfl; clear hS; intro b w1 hS)
      | (apply RO.op; apply OP.alloc hS; rfl; rfl; rfl; clear hS; intro b w1 hS)
      | (apply RO.op; apply OP.store hS; rfl; rfl; rfl; rfl; rfl; (focus ((repeat (first | apply Has.head | apply Take.head | apply Put.head | apply Has.tail | apply Take.tail | apply Put.tail)); done)); rfl; rfl; clear hS; intro w1 hS)
      | (apply RO.op; apply OP.buildSlice hS; rfl; rfl; (exact eqAuto); rfl; rfl; rfl; rfl; rfl; clear hS; intro b w1 hS)
      | (apply RO.op; apply OP.makeMap hS; rfl; clear hS; intro b w1 hS)
      | refine RO.yes rfl rfl ?_
      | refine RO.no rfl rfl rfl rfl ?_
      | refine RO.noUndef rfl rfl rfl ?_
      | refine RO.noNone rfl rfl rfl ?_
      | refine Run.cond_true rfl ?_
      | refine Run.cond_false rfl ?_
      | refine Run.skip ?_
      | refine Run.block ?_
      | refine Run.inBlock ?_
      | refine Run.exit rfl ?_
    refine Run.ret Try.func26 rfl (.tmp rfl .nil) ?_
    exact ⟨rfl, hS.picks (by focus ((repeat (first | apply Picks.all | apply Picks.nil | (refine Picks.cons (by repeat (first | apply Take.head | apply Take.tail)) ?_) | apply Picks.drop)); done))⟩
  · have h1 : (l.length : Int) ≤ i := by omega
    refine Run.calls4 (n := 71) Try.func26 rfl rfl rfl ?_
    repeat' first
      | (refine Run.regionQ_of hS (by rfl) (by kernel_rfl) ?_; clear hS)
      | (refine RQ.split ?_ ?_ <;> intro hc <;> try (first | (exfalso; omega) | exact absurd rfl hc | exact Bool.noConfusion hc))
      | (refine RQ.nil ?_; (try clear hS); intro w1 hS)
      | refine RQ.still (by exact Still.any) rfl ?_
      | refine RQ.yes rfl rfl ?_
      | refine RQ.no rfl rfl rfl rfl ?_
      | refine RQ.noUndef rfl rfl rfl ?_
      | refine Run.seq ?_
      | refine Run.region ?_
      | (refine RO.split ?_ ?_ <;> intro hc <;> try (first | (exfalso; omega) | exact absurd rfl hc | exact Bool.noConfusion hc))
      | refine RO.nil ?_
      | refine RO.still (by exact Still.any) hS rfl ?_
      | (apply RO.op; apply OP.box hS; rfl; rfl; rfl; clear hS; intro b w1 hS)
      | (apply RO.op; apply OP.alloc hS; rfl; rfl; rfl; clear hS; intro b w1 hS)
      | (apply RO.op; apply OP.store hS; rfl; rfl; rfl; rfl; rfl; (focus ((repeat (first | apply Has.head | apply Take.head | apply Put.head | apply Has.tail | apply Take.tail | apply Put.tail)); done)); rfl; rfl; clear hS; intro w1 hS)
      | (apply RO.op; apply OP.buildSlice hS; rfl; rfl; (exact eqAuto); rfl; rfl; rfl; rfl; rfl; clear hS; intro b w1 hS)
      | (apply RO.op; apply OP.makeMap hS; rfl; clear hS; intro b w1 hS)
      | refine RO.yes rfl rfl ?_
      | refine RO.no rfl rfl rfl rfl ?_
      | refine RO.noUndef rfl rfl rfl ?_
      | refine RO.noNone rfl rfl rfl ?_
      | refine Run.cond_true rfl ?_
      | refine Run.cond_false rfl ?_
      | refine Run.skip ?_
      | refine Run.block ?_
      | refine Run.inBlock ?_
      | refine Run.exit rfl ?_
    refine Run.ret Try.func26 rfl (.tmp rfl .nil) ?_
    exact ⟨rfl, hS.picks (by focus ((repeat (first | apply Picks.all | apply Picks.nil | (refine Picks.cons (by repeat (first | apply Take.head | apply Take.tail)) ?_) | apply Picks.drop)); done))⟩

set_option maxHeartbeats 8000000 in
theorem refForged_in {m : Nat} {x : Ev} {bc cc : Nat} {spc : List Value} (g : Good lim L) (hl : Sl ρ evL 4 v l) (hle : l.length ≤ 30) (hm : m < l.length) (hx : l[m] = x) (hS : St we ρ (Row bc (boolsL L (can L K) ++ spc) 4 :: F) w) :
    Cl Try.prog 24 [raV lim' r L.length cap, .slice (some ⟨bc, 0, none⟩) L.length cc, v, .int .i64 m] w fun v w' => v = .bool (forgedV l x (can L K x.key)) ∧ St we ρ (Row bc (boolsL L (can L K) ++ spc) 4 :: F) w' := by
  obtain ⟨p1, c1, rfl, k1, k2, hrow⟩ := hl.val
  have hlim := g.lim
  have hlen := g.len
  obtain ⟨b, off, cs, el, fr, rfl, hmem, hnd⟩ := hrow (by omega)
  have hni := hnd m hm
  rw [hx] at hni
  have g0 : cs[off + m * 4]? = some (.bool x.sent) := cell_at (j := 0) hni rfl
  have g1 : cs[off + m * 4 + 1]? = some (.int .i64 x.part) := cell_at hni rfl
  have g3 : cs[off + m * 4 + 3]? = some (.int .i64 x.key) := cell_at hni rfl
  have hhon := honestF_len l x.part 0
  change (honest l x.part).length ≤ _ at hhon
  unfold forgedV closedV
  obtain ⟨sx, hsx⟩ : ∃ b, x.sent = b := ⟨_, rfl⟩
  rw [hsx] at g0 ⊢
  cases sx with
  | true =>
    rw [if_neg (by simp), Bool.false_and]
    refine Run.calls4 (n := 61) Try.func24 rfl rfl rfl ?_
    repeat' first
      | (refine RO.still (by apply Still.load; rfl; rfl; exact Rd.ro hmem; exact g0) hS rfl ?_)
      | refine Run.seq ?_
      | refine Run.region ?_
      | (refine RO.split ?_ ?_ <;> intro hc <;> try (first | (exfalso; omega) | exact absurd rfl hc | exact Bool.noConfusion hc))
      | refine RO.nil ?_
      | refine RO.still (by exact Still.any) hS rfl ?_
      | (apply RO.op; apply OP.box hS; rfl; rfl; rfl; clear hS; intro b w1 hS)
      | (apply RO.op; apply OP.alloc hS; rfl; rfl; rfl; clear hS; intro b w1 hS)
      | (apply RO.op; apply OP.store hS; rfl; rfl; rfl; rfl; rfl; (focus ((repeat (first | apply Has.head | apply Take.head | apply Put.head | apply Has.tail | apply Take.tail | apply Put.tail)); done)); rfl; rfl; clear hS; intro w1 hS)
      | (apply RO.op; apply OP.buildSlice hS; rfl; rfl; (exact eqAuto); rfl; rfl; rfl; rfl; rfl; clear hS; intro b w1 hS)
      | (apply RO.op; apply OP.makeMap hS; rfl; clear hS; intro b w1 hS)
      | refine RO.yes rfl rfl ?_
      | refine RO.no rfl rfl rfl rfl ?_
      | refine RO.noUndef rfl rfl rfl ?_
      | refine RO.noNone rfl rfl rfl ?_
      | refine Run.cond_true rfl ?_
      | refine Run.cond_false rfl ?_
      | refine Run.skip ?_
      | refine Run.block ?_
      | refine Run.inBlock ?_
      | refine Run.exit rfl ?_
    refine Run.ret Try.func24 rfl (.tmp rfl .nil) ?_
    exact ⟨rfl, hS.picks (by focus ((repeat (first | apply Picks.all | apply Picks.nil | (refine Picks.cons (by repeat (first | apply Take.head | apply Take.tail)) ?_) | apply Picks.drop)); done))⟩
  | false =>
    rw [if_pos rfl]
    by_cases hkey : 0 < x.key
    rotate_left
    · rw [if_neg hkey, Bool.false_and]
      refine Run.calls4 (n := 61) Try.func24 rfl rfl rfl ?_
      repeat' first
        | (refine RO.still (by apply Still.load; rfl; rfl; exact Rd.ro hmem; exact g0) hS rfl ?_)
        | (refine RO.still (by apply Still.load; rfl; rfl; exact Rd.ro hmem; exact g3) hS rfl ?_)
        | refine Run.seq ?_
        | refine Run.region ?_
        | (refine RO.split ?_ ?_ <;> intro hc <;> try (first | (exfalso; omega) | exact absurd rfl hc | exact Bool.noConfusion hc))
        | refine RO.nil ?_
        | refine RO.still (by exact Still.any) hS rfl ?_
        | (apply RO.op; apply OP.box hS; rfl; rfl; rfl; clear hS; intro b w1 hS)
        | (apply RO.op; apply OP.alloc hS; rfl; rfl; rfl; clear hS; intro b w1 hS)
        | (apply RO.op; apply OP.store hS; rfl; rfl; rfl; rfl; rfl; (focus ((repeat (first | apply Has.head | apply Take.head | apply Put.head | apply Has.tail | apply Take.tail | apply Put.tail)); done)); rfl; rfl; clear hS; intro w1 hS)
        | (apply RO.op; apply OP.buildSlice hS; rfl; rfl; (exact eqAuto); rfl; rfl; rfl; rfl; rfl; clear hS; intro b w1 hS)
        | (apply RO.op; apply OP.makeMap hS; rfl; clear hS; intro b w1 hS)
        | refine RO.yes rfl rfl ?_
        | refine RO.no rfl rfl rfl rfl ?_
        | refine RO.noUndef rfl rfl rfl ?_
        | refine RO.noNone rfl rfl rfl ?_
        | refine Run.cond_true rfl ?_
        | refine Run.cond_false rfl ?_
        | refine Run.skip ?_
        | refine Run.block ?_
        | refine Run.inBlock ?_
        | refine Run.exit rfl ?_
      refine Run.ret Try.func24 rfl (.tmp rfl .nil) ?_
      exact ⟨rfl, hS.picks (by focus ((repeat (first | apply Picks.all | apply Picks.nil | (refine Picks.cons (by repeat (first | apply Take.head | apply Take.tail)) ?_) | apply Picks.drop)); done))⟩
    rw [if_pos hkey]
    obtain ⟨res, hres⟩ : ∃ b, (!can L K x.key && decide (((honest l x.part).length : Int) = 0)) = b := ⟨_, rfl⟩
    rw [hres]
    have key : ∀ hk0, has L x.key = hk0 → (hk0 = true → (boolsL L (can L K) ++ spc)[x.key.toNat]? = some (.bool (can L K x.key)) ∧ 0 ≤ x.key ∧ x.key < L.length) ∧ (hk0 = false → can L K x.key = false) := fun hk0 h => by
      subst h
      exact ⟨fun h => ⟨boolsL_get h, (has_iff.1 h).1, (has_iff.1 h).2⟩, fun h => can_out h⟩
    refine Run.calls4 (n := 61) Try.func24 rfl rfl rfl ?_
    repeat' first
      | (refine RO.still (by apply Still.load; rfl; rfl; exact Rd.ro hmem; exact g0) hS rfl ?_)
      | (refine RO.still (by apply Still.load; rfl; rfl; exact Rd.ro hmem; exact g3) hS rfl ?_)
      | refine Run.seq ?_
      | refine Run.region ?_
      | (refine RO.split ?_ ?_ <;> intro hc <;> try (first | (exfalso; omega) | exact absurd rfl hc | exact Bool.noConfusion hc))
      | refine RO.nil ?_
      | refine RO.still (by exact Still.any) hS rfl ?_
      | (apply RO.op; apply OP.box hS; rfl; rfl; rfl; clear hS; intro b w1 hS)
      | (apply RO.op; apply OP.alloc hS; rfl; rfl; rfl; clear hS; intro b w1 hS)
      | (apply RO.op; apply OP.store hS; rfl; rfl; rfl; rfl; rfl; (focus ((repeat (first | apply Has.head | apply Take.head | apply Put.head | apply Has.tail | apply Take.tail | apply Put.tail)); done)); rfl; rfl; clear hS; intro w1 hS)
      | (apply RO.op; apply OP.buildSlice hS; rfl; rfl; (exact eqAuto); rfl; rfl; rfl; rfl; rfl; clear hS; intro b w1 hS)
      | (apply RO.op; apply OP.makeMap hS; rfl; clear hS; intro b w1 hS)
      | refine RO.yes rfl rfl ?_
      | refine RO.no rfl rfl rfl rfl ?_
      | refine RO.noUndef rfl rfl rfl ?_
      | refine RO.noNone rfl rfl rfl ?_
      | refine Run.cond_true rfl ?_
      | refine Run.cond_false rfl ?_
      | refine Run.skip ?_
      | refine Run.block ?_
      | refine Run.inBlock ?_
      | refine Run.exit rfl ?_
    refine (Run.regionH_cut (fun _ : Unit => Row bc (boolsL L (can L K) ++ spc) 4 :: F) (fun _ => [(8, .bool res)])
      hS (List.Sublist.refl _) (by rfl) (by rfl) (by rfl) ?_ ?_)
    · clear hS
      intro w1 hS
      cases hk : has L x.key with
      | true =>
        obtain ⟨fcan, kx1, kx2⟩ := (key true hk).1 rfl
        cases hcan : can L K x.key with
        | true =>
          rw [hcan] at fcan hres
          rw [Bool.not_true, Bool.false_and] at hres
          subst hres
          refine RH.relist (listed' := bm 30 0) (by kernel_rfl) ?_
          all_goals (apply RH.take (i := 0) (listed := (bm 30 0)) (listed' := (bm 30 1)); rfl; kernel_rfl; kernel_rfl; (first | (apply Still.load; rfl; rfl; exact Rd.ro hmem; exact g0) | (apply Still.load; rfl; rfl; exact Rd.ro hmem; exact g1) | (apply Still.load; rfl; rfl; exact Rd.ro hmem; exact g3) | (apply Still.load; rfl; rfl; (exact Rd.any); exact fcan) | (apply Still.load; rfl; rfl; (exact Rd.any); (first | rfl | exact flat_get0 (by assumption) | exact flat_get1 (by assumption) | exact flat_get2 (by assumption) | exact flat_get3 (by assumption) | exact flat_get4 (by assumption))) | (apply Still.loadAgg; rfl; rfl; (exact eqAuto); (exact Rd.any); (first | exact flat_take (by assumption) | rfl); rfl)); (first | exact hS | exact hS.tail | exact hS.sublist (by repeat (first | exact List.Sublist.refl _ | refine .cons_cons _ ?_ | refine .cons _ ?_))); rfl)
          all_goals (apply RH.take (i := 1) (listed := (bm 30 1)) (listed' := (bm 30 3)); rfl; kernel_rfl; kernel_rfl; (apply Still.move; rfl); (first | exact hS | exact hS.tail | exact hS.sublist (by repeat (first | exact List.Sublist.refl _ | refine .cons_cons _ ?_ | refine .cons _ ?_))); rfl)
          all_goals (apply RH.take (i := 2) (listed := (bm 30 3)) (listed' := (bm 30 7)); rfl; kernel_rfl; kernel_rfl; (apply Still.move; rfl); (first | exact hS | exact hS.tail | exact hS.sublist (by repeat (first | exact List.Sublist.refl _ | refine .cons_cons _ ?_ | refine .cons _ ?_))); rfl)
          all_goals (apply RH.take (i := 3) (listed := (bm 30 7)) (listed' := (bm 30 15)); rfl; kernel_rfl; kernel_rfl; (first | (exact Still.any) | (apply Still.indexAddrA; rfl; rfl; rfl; (exact eqAuto); omega; omega; (first | (simp only [Int.toNat_natCast, Nat.mul_one, Nat.zero_add, Int.reduceToNat, Nat.reduceMul, Nat.reduceAdd, Nat.zero_mul]; exact rfl) | rfl))); (first | exact hS | exact hS.tail | exact hS.sublist (by repeat (first | exact List.Sublist.refl _ | refine .cons_cons _ ?_ | refine .cons _ ?_))); rfl)
          all_goals (apply RH.take (i := 4) (listed := (bm 30 15)) (listed' := (bm 30 31)); rfl; kernel_rfl; kernel_rfl; (apply Still.fieldAddr; rfl; (exact eqAuto)); (first | exact hS | exact hS.tail | exact hS.sublist (by repeat (first | exact List.Sublist.refl _ | refine .cons_cons _ ?_ | refine .cons _ ?_))); rfl)
          all_goals (apply RH.take (i := 5) (listed := (bm 30 31)) (listed' := (bm 30 63)); rfl; kernel_rfl; kernel_rfl; (first | (apply Still.load; rfl; rfl; exact Rd.ro hmem; exact g0) | (apply Still.load; rfl; rfl; exact Rd.ro hmem; exact g1) | (apply Still.load; rfl; rfl; exact Rd.ro hmem; exact g3) | (apply Still.load; rfl; rfl; (exact Rd.any); exact fcan) | (apply Still.load; rfl; rfl; (exact Rd.any); (first | rfl | exact flat_get0 (by assumption) | exact flat_get1 (by assumption) | exact flat_get2 (by assumption) | exact flat_get3 (by assumption) | exact flat_get4 (by assumption))) | (apply Still.loadAgg; rfl; rfl; (exact eqAuto); (exact Rd.any); (first | exact flat_take (by assumption) | rfl); rfl)); (first | exact hS | exact hS.tail | exact hS.sublist (by repeat (first | exact List.Sublist.refl _ | refine .cons_cons _ ?_ | refine .cons _ ?_))); rfl)
          all_goals
            apply RH.all1 (i := 6) (listed := (bm 30 63))
            · kernel_rfl
            · apply RI.op (i := 6) (listed := (bm 30 63)) (listed' := (bm 30 127)); rfl; kernel_rfl
              all_goals try first
              | (apply OP.callF; rfl; rfl; rfl; show Cl _ 21 _ _ _; exact refHas_is hk hS; clear hS; rintro v w1 ⟨rfl, hS⟩; refine ⟨(by first | exact hS | exact hS.tail | exact hS.sublist (by repeat (first | exact List.Sublist.refl _ | refine .cons_cons _ ?_ | refine .cons _ ?_))), ?_⟩)
              | (apply OP.callF; rfl; rfl; rfl; show Cl _ 27 _ _ _; exact refHonest hl hle hS; clear hS; intro v2 w1 hS; obtain ⟨ph, ch, rfl⟩ := vec_slice hS; refine ⟨(by first | exact hS | exact hS.tail | exact hS.sublist (by repeat (first | exact List.Sublist.refl _ | refine .cons_cons _ ?_ | refine .cons _ ?_))), ?_⟩)
              | (refine OP.still (by exact Still.any) hS rfl ⟨(by first | exact hS | exact hS.tail | exact hS.sublist (by repeat (first | exact List.Sublist.refl _ | refine .cons_cons _ ?_ | refine .cons _ ?_))), ?_⟩)
              all_goals (apply RH.take (i := 7) (listed := (bm 30 127)) (listed' := (bm 30 255)); rfl; kernel_rfl; kernel_rfl; (apply Still.move; rfl); (first | exact hS | exact hS.tail | exact hS.sublist (by repeat (first | exact List.Sublist.refl _ | refine .cons_cons _ ?_ | refine .cons _ ?_))); rfl)
              all_goals (first | (apply RH.takeYes (i := 8) (listed := (bm 30 255)) (listed' := (bm 30 511)); rfl; rfl; rfl; kernel_rfl; kernel_rfl; (apply Still.move; rfl); (first | exact hS | exact hS.tail | exact hS.sublist (by repeat (first | exact List.Sublist.refl _ | refine .cons_cons _ ?_ | refine .cons _ ?_))); rfl) | (first | (apply RH.takeNo (i := 8) (listed := (bm 30 255)) (listed' := (bm 30 511)); rfl; rfl; rfl; rfl; kernel_rfl; kernel_rfl; (first | exact hS | exact hS.tail | exact hS.sublist (by repeat (first | exact List.Sublist.refl _ | refine .cons_cons _ ?_ | refine .cons _ ?_))); rfl) | (apply RH.takeUndef (i := 8) (listed := (bm 30 255)) (listed' := (bm 30 511)); rfl; rfl; rfl; kernel_rfl; kernel_rfl; (first | exact hS | exact hS.tail | exact hS.sublist (by repeat (first | exact List.Sublist.refl _ | refine .cons_cons _ ?_ | refine .cons _ ?_))); rfl)))
              all_goals (first | (apply RH.takeYes (i := 9) (listed := (bm 30 511)) (listed' := (bm 30 1023)); rfl; rfl; rfl; kernel_rfl; kernel_rfl; (apply Still.move; rfl); (first | exact hS | exact hS.tail | exact hS.sublist (by repeat (first | exact List.Sublist.refl _ | refine .cons_cons _ ?_ | refine .cons _ ?_))); rfl) | (first | (apply RH.takeNo (i := 9) (listed := (bm 30 511)) (listed' := (bm 30 1023)); rfl; rfl; rfl; rfl; kernel_rfl; kernel_rfl; (first | exact hS | exact hS.tail | exact hS.sublist (by repeat (first | exact List.Sublist.refl _ | refine .cons_cons _ ?_ | refine .cons _ ?_))); rfl) | (apply RH.takeUndef (i := 9) (listed := (bm 30 511)) (listed' := (bm 30 1023)); rfl; rfl; rfl; kernel_rfl; kernel_rfl; (first | exact hS | exact hS.tail | exact hS.sublist (by repeat (first | exact List.Sublist.refl _ | refine .cons_cons _ ?_ | refine .cons _ ?_))); rfl)))
              all_goals (first | (apply RH.takeYes (i := 10) (listed := (bm 30 1023)) (listed' := (bm 30 2047)); rfl; rfl; rfl; kernel_rfl; kernel_rfl; (apply Still.move; rfl); (first | exact hS | exact hS.tail | exact hS.sublist (by repeat (first | exact List.Sublist.refl _ | refine .cons_cons _ ?_ | refine .cons _ ?_))); rfl) | (first | (apply RH.takeNo (i := 10) (listed := (bm 30 1023)) (listed' := (bm 30 2047)); rfl; rfl; rfl; rfl; kernel_rfl; kernel_rfl; (first | exact hS | exact hS.tail | exact hS.sublist (by repeat (first | exact List.Sublist.refl _ | refine .cons_cons _ ?_ | refine .cons _ ?_))); rfl) | (apply RH.takeUndef (i := 10) (listed := (bm 30 1023)) (listed' := (bm 30 2047)); rfl; rfl; rfl; kernel_rfl; kernel_rfl; (first | exact hS | exact hS.tail | exact hS.sublist (by repeat (first | exact List.Sublist.refl _ | refine .cons_cons _ ?_ | refine .cons _ ?_))); rfl)))
              all_goals (first | (apply RH.takeYes (i := 11) (listed := (bm 30 2047)) (listed' := (bm 30 4095)); rfl; rfl; rfl; kernel_rfl; kernel_rfl; (first | (exact Still.any) | (apply Still.indexAddrA; rfl; rfl; rfl; (exact eqAuto); omega; omega; (first | (simp only [Int.toNat_natCast, Nat.mul_one, Nat.zero_add, Int.reduceToNat, Nat.reduceMul, Nat.reduceAdd, Nat.zero_mul]; exact rfl) | rfl))); (first | exact hS | exact hS.tail | exact hS.sublist (by repeat (first | exact List.Sublist.refl _ | refine .cons_cons _ ?_ | refine .cons _ ?_))); rfl) | (first | (apply RH.takeNo (i := 11) (listed := (bm 30 2047)) (listed' := (bm 30 4095)); rfl; rfl; rfl; rfl; kernel_rfl; kernel_rfl; (first | exact hS | exact hS.tail | exact hS.sublist (by repeat (first | exact List.Sublist.refl _ | refine .cons_cons _ ?_ | refine .cons _ ?_))); rfl) | (apply RH.takeUndef (i := 11) (listed := (bm 30 2047)) (listed' := (bm 30 4095)); rfl; rfl; rfl; kernel_rfl; kernel_rfl; (first | exact hS | exact hS.tail | exact hS.sublist (by repeat (first | exact List.Sublist.refl _ | refine .cons_cons _ ?_ | refine .cons _ ?_))); rfl)))
              all_goals (first | (apply RH.takeYes (i := 12) (listed := (bm 30 4095)) (listed' := (bm 30 8191)); rfl; rfl; rfl; kernel_rfl; kernel_rfl; (apply Still.fieldAddr; rfl; (exact eqAuto)); (first | exact hS | exact hS.tail | exact hS.sublist (by repeat (first | exact List.Sublist.refl _ | refine .cons_cons _ ?_ | refine .cons _ ?_))); rfl) | (first | (apply RH.takeNo (i := 12) (listed := (bm 30 4095)) (listed' := (bm 30 8191)); rfl; rfl; rfl; rfl; kernel_rfl; kernel_rfl; (first | exact hS | exact hS.tail | exact hS.sublist (by repeat (first | exact List.Sublist.refl _ | refine .cons_cons _ ?_ | refine .cons _ ?_))); rfl) | (apply RH.takeUndef (i := 12) (listed := (bm 30 4095)) (listed' := (bm 30 8191)); rfl; rfl; rfl; kernel_rfl; kernel_rfl; (first | exact hS | exact hS.tail | exact hS.sublist (by repeat (first | exact List.Sublist.refl _ | refine .cons_cons _ ?_ | refine .cons _ ?_))); rfl)))
              all_goals (first | (apply RH.takeYes (i := 13) (listed := (bm 30 8191)) (listed' := (bm 30 16383)); rfl; rfl; rfl; kernel_rfl; kernel_rfl; (first | (apply Still.load; rfl; rfl; exact Rd.ro hmem; exact g0) | (apply Still.load; rfl; rfl; exact Rd.ro hmem; exact g1) | (apply Still.load; rfl; rfl; exact Rd.ro hmem; exact g3) | (apply Still.load; rfl; rfl; (exact Rd.any); exact fcan) | (apply Still.load; rfl; rfl; (exact Rd.any); (first | rfl | exact flat_get0 (by assumption) | exact flat_get1 (by assumption) | exact flat_get2 (by assumption) | exact flat_get3 (by assumption) | exact flat_get4 (by assumption))) | (apply Still.loadAgg; rfl; rfl; (exact eqAuto); (exact Rd.any); (first | exact flat_take (by assumption) | rfl); rfl)); (first | exact hS | exact hS.tail | exact hS.sublist (by repeat (first | exact List.Sublist.refl _ | refine .cons_cons _ ?_ | refine .cons _ ?_))); rfl) | (first | (apply RH.takeNo (i := 13) (listed := (bm 30 8191)) (listed' := (bm 30 16383)); rfl; rfl; rfl; rfl; kernel_rfl; kernel_rfl; (first | exact hS | exact hS.tail | exact hS.sublist (by repeat (first | exact List.Sublist.refl _ | refine .cons_cons _ ?_ | refine .cons _ ?_))); rfl) | (apply RH.takeUndef (i := 13) (listed := (bm 30 8191)) (listed' := (bm 30 16383)); rfl; rfl; rfl; kernel_rfl; kernel_rfl; (first | exact hS | exact hS.tail | exact hS.sublist (by repeat (first | exact List.Sublist.refl _ | refine .cons_cons _ ?_ | refine .cons _ ?_))); rfl)))
              all_goals (first | (apply RH.takeYes (i := 14) (listed := (bm 30 16383)) (listed' := (bm 30 32767)); rfl; rfl; rfl; kernel_rfl; kernel_rfl; (first | (exact Still.any) | (apply Still.indexAddrA; rfl; rfl; rfl; (exact eqAuto); omega; omega; (first | (simp only [Int.toNat_natCast, Nat.mul_one, Nat.zero_add, Int.reduceToNat, Nat.reduceMul, Nat.reduceAdd, Nat.zero_mul]; exact rfl) | rfl))); (first | exact hS | exact hS.tail | exact hS.sublist (by repeat (first | exact List.Sublist.refl _ | refine .cons_cons _ ?_ | refine .cons _ ?_))); rfl) | (first | (apply RH.takeNo (i := 14) (listed := (bm 30 16383)) (listed' := (bm 30 32767)); rfl; rfl; rfl; rfl; kernel_rfl; kernel_rfl; (first | exact hS | exact hS.tail | exact hS.sublist (by repeat (first | exact List.Sublist.refl _ | refine .cons_cons _ ?_ | refine .cons _ ?_))); rfl) | (apply RH.takeUndef (i := 14) (listed := (bm 30 16383)) (listed' := (bm 30 32767)); rfl; rfl; rfl; kernel_rfl; kernel_rfl; (first | exact hS | exact hS.tail | exact hS.sublist (by repeat (first | exact List.Sublist.refl _ | refine .cons_cons _ ?_ | refine .cons _ ?_))); rfl)))
              all_goals (first | (apply RH.takeYes (i := 15) (listed := (bm 30 32767)) (listed' := (bm 30 65535)); rfl; rfl; rfl; kernel_rfl; kernel_rfl; (first | (apply Still.load; rfl; rfl; exact Rd.ro hmem; exact g0) | (apply Still.load; rfl; rfl; exact Rd.ro hmem; exact g1) | (apply Still.load; rfl; rfl; exact Rd.ro hmem; exact g3) | (apply Still.load; rfl; rfl; (exact Rd.any); exact fcan) | (apply Still.load; rfl; rfl; (exact Rd.any); (first | rfl | exact flat_get0 (by assumption) | exact flat_get1 (by assumption) | exact flat_get2 (by assumption) | exact flat_get3 (by assumption) | exact flat_get4 (by assumption))) | (apply Still.loadAgg; rfl; rfl; (exact eqAuto); (exact Rd.any); (first | exact flat_take (by assumption) | rfl); rfl)); (first | exact hS | exact hS.tail | exact hS.sublist (by repeat (first | exact List.Sublist.refl _ | refine .cons_cons _ ?_ | refine .cons _ ?_))); rfl) | (first | (apply RH.takeNo (i := 15) (listed := (bm 30 32767)) (listed' := (bm 30 65535)); rfl; rfl; rfl; rfl; kernel_rfl; kernel_rfl; (first | exact hS | exact hS.tail | exact hS.sublist (by repeat (first | exact List.Sublist.refl _ | refine .cons_cons _ ?_ | refine .cons _ ?_))); rfl) | (apply RH.takeUndef (i := 15) (listed := (bm 30 32767)) (listed' := (bm 30 65535)); rfl; rfl; rfl; kernel_rfl; kernel_rfl; (first | exact hS | exact hS.tail | exact hS.sublist (by repeat (first | exact List.Sublist.refl _ | refine .cons_cons _ ?_ | refine .cons _ ?_))); rfl)))
              all_goals (apply RH.take (i := 16) (listed := (bm 30 65535)) (listed' := (bm 30 131071)); rfl; kernel_rfl; kernel_rfl; (first | (apply Still.pickT; rfl; rfl) | (apply Still.pickF; rfl; rfl)); (first | exact hS | exact hS.tail | exact hS.sublist (by repeat (first | exact List.Sublist.refl _ | refine .cons_cons _ ?_ | refine .cons _ ?_))); rfl)
              all_goals (apply RH.take (i := 17) (listed := (bm 30 131071)) (listed' := (bm 30 262143)); rfl; kernel_rfl; kernel_rfl; (first | (apply Still.not; rfl; rfl) | (apply Still.neg; rfl; (first | exact wrap_i64 (by omega) (by omega) | exact wrap_u64 (by omega) (by omega) | rfl))); (first | exact hS | exact hS.tail | exact hS.sublist (by repeat (first | exact List.Sublist.refl _ | refine .cons_cons _ ?_ | refine .cons _ ?_))); rfl)
              all_goals (apply RH.take (i := 18) (listed := (bm 30 262143)) (listed' := (bm 30 524287)); rfl; kernel_rfl; kernel_rfl; (apply Still.move; rfl); (first | exact hS | exact hS.tail | exact hS.sublist (by repeat (first | exact List.Sublist.refl _ | refine .cons_cons _ ?_ | refine .cons _ ?_))); rfl)
              all_goals (first | (apply RH.takeYes (i := 19) (listed := (bm 30 524287)) (listed' := (bm 30 1048575)); rfl; rfl; rfl; kernel_rfl; kernel_rfl; (apply Still.move; rfl); (first | exact hS | exact hS.tail | exact hS.sublist (by repeat (first | exact List.Sublist.refl _ | refine .cons_cons _ ?_ | refine .cons _ ?_))); rfl) | (first | (apply RH.takeNo (i := 19) (listed := (bm 30 524287)) (listed' := (bm 30 1048575)); rfl; rfl; rfl; rfl; kernel_rfl; kernel_rfl; (first | exact hS | exact hS.tail | exact hS.sublist (by repeat (first | exact List.Sublist.refl _ | refine .cons_cons _ ?_ | refine .cons _ ?_))); rfl) | (apply RH.takeUndef (i := 19) (listed := (bm 30 524287)) (listed' := (bm 30 1048575)); rfl; rfl; rfl; kernel_rfl; kernel_rfl; (first | exact hS | exact hS.tail | exact hS.sublist (by repeat (first | exact List.Sublist.refl _ | refine .cons_cons _ ?_ | refine .cons _ ?_))); rfl)))
              all_goals (first | (apply RH.takeYes (i := 20) (listed := (bm 30 1048575)) (listed' := (bm 30 2097151)); rfl; rfl; rfl; kernel_rfl; kernel_rfl; (apply Still.move; rfl); (first | exact hS | exact hS.tail | exact hS.sublist (by repeat (first | exact List.Sublist.refl _ | refine .cons_cons _ ?_ | refine .cons _ ?_))); rfl) | (first | (apply RH.takeNo (i := 20) (listed := (bm 30 1048575)) (listed' := (bm 30 2097151)); rfl; rfl; rfl; rfl; kernel_rfl; kernel_rfl; (first | exact hS | exact hS.tail | exact hS.sublist (by repeat (first | exact List.Sublist.refl _ | refine .cons_cons _ ?_ | refine .cons _ ?_))); rfl) | (apply RH.takeUndef (i := 20) (listed := (bm 30 1048575)) (listed' := (bm 30 2097151)); rfl; rfl; rfl; kernel_rfl; kernel_rfl; (first | exact hS | exact hS.tail | exact hS.sublist (by repeat (first | exact List.Sublist.refl _ | refine .cons_cons _ ?_ | refine .cons _ ?_))); rfl)))
              all_goals (first | (apply RH.takeYes (i := 21) (listed := (bm 30 2097151)) (listed' := (bm 30 4194303)); rfl; rfl; rfl; kernel_rfl; kernel_rfl; (apply Still.move; rfl); (first | exact hS | exact hS.tail | exact hS.sublist (by repeat (first | exact List.Sublist.refl _ | refine .cons_cons _ ?_ | refine .cons _ ?_))); rfl) | (first | (apply RH.takeNo (i := 21) (listed := (bm 30 2097151)) (listed' := (bm 30 4194303)); rfl; rfl; rfl; rfl; kernel_rfl; kernel_rfl; (first | exact hS | exact hS.tail | exact hS.sublist (by repeat (first | exact List.Sublist.refl _ | refine .cons_cons _ ?_ | refine .cons _ ?_))); rfl) | (apply RH.takeUndef (i := 21) (listed := (bm 30 2097151)) (listed' := (bm 30 4194303)); rfl; rfl; rfl; kernel_rfl; kernel_rfl; (first | exact hS | exact hS.tail | exact hS.sublist (by repeat (first | exact List.Sublist.refl _ | refine .cons_cons _ ?_ | refine .cons _ ?_))); rfl)))
              all_goals (first | (apply RH.takeYes (i := 22) (listed := (bm 30 4194303)) (listed' := (bm 30 8388607)); rfl; rfl; rfl; kernel_rfl; kernel_rfl; (first | (exact Still.any) | (apply Still.indexAddrA; rfl; rfl; rfl; (exact eqAuto); omega; omega; (first | (simp only [Int.toNat_natCast, Nat.mul_one, Nat.zero_add, Int.reduceToNat, Nat.reduceMul, Nat.reduceAdd, Nat.zero_mul]; exact rfl) | rfl))); (first | exact hS | exact hS.tail | exact hS.sublist (by repeat (first | exact List.Sublist.refl _ | refine .cons_cons _ ?_ | refine .cons _ ?_))); rfl) | (first | (apply RH.takeNo (i := 22) (listed := (bm 30 4194303)) (listed' := (bm 30 8388607)); rfl; rfl; rfl; rfl; kernel_rfl; kernel_rfl; (first | exact hS | exact hS.tail | exact hS.sublist (by repeat (first | exact List.Sublist.refl _ | refine .cons_cons _ ?_ | refine .cons _ ?_))); rfl) | (apply RH.takeUndef (i := 22) (listed := (bm 30 4194303)) (listed' := (bm 30 8388607)); rfl; rfl; rfl; kernel_rfl; kernel_rfl; (first | exact hS | exact hS.tail | exact hS.sublist (by repeat (first | exact List.Sublist.refl _ | refine .cons_cons _ ?_ | refine .cons _ ?_))); rfl)))
              all_goals (first | (apply RH.takeYes (i := 23) (listed := (bm 30 8388607)) (listed' := (bm 30 16777215)); rfl; rfl; rfl; kernel_rfl; kernel_rfl; (apply Still.fieldAddr; rfl; (exact eqAuto)); (first | exact hS | exact hS.tail | exact hS.sublist (by repeat (first | exact List.Sublist.refl _ | refine .cons_cons _ ?_ | refine .cons _ ?_))); rfl) | (first | (apply RH.takeNo (i := 23) (listed := (bm 30 8388607)) (listed' := (bm 30 16777215)); rfl; rfl; rfl; rfl; kernel_rfl; kernel_rfl; (first | exact hS | exact hS.tail | exact hS.sublist (by repeat (first | exact List.Sublist.refl _ | refine .cons_cons _ ?_ | refine .cons _ ?_))); rfl) | (apply RH.takeUndef (i := 23) (listed := (bm 30 8388607)) (listed' := (bm 30 16777215)); rfl; rfl; rfl; kernel_rfl; kernel_rfl; (first | exact hS | exact hS.tail | exact hS.sublist (by repeat (first | exact List.Sublist.refl _ | refine .cons_cons _ ?_ | refine .cons _ ?_))); rfl)))
              all_goals (first | (apply RH.takeYes (i := 24) (listed := (bm 30 16777215)) (listed' := (bm 30 33554431)); rfl; rfl; rfl; kernel_rfl; kernel_rfl; (first | (apply Still.load; rfl; rfl; exact Rd.ro hmem; exact g0) | (apply Still.load; rfl; rfl; exact Rd.ro hmem; exact g1) | (apply Still.load; rfl; rfl; exact Rd.ro hmem; exact g3) | (apply Still.load; rfl; rfl; (exact Rd.any); exact fcan) | (apply Still.load; rfl; rfl; (exact Rd.any); (first | rfl | exact flat_get0 (by assumption) | exact flat_get1 (by assumption) | exact flat_get2 (by assumption) | exact flat_get3 (by assumption) | exact flat_get4 (by assumption))) | (apply Still.loadAgg; rfl; rfl; (exact eqAuto); (exact Rd.any); (first | exact flat_take (by assumption) | rfl); rfl)); (first | exact hS | exact hS.tail | exact hS.sublist (by repeat (first | exact List.Sublist.refl _ | refine .cons_cons _ ?_ | refine .cons _ ?_))); rfl) | (first | (apply RH.takeNo (i := 24) (listed := (bm 30 16777215)) (listed' := (bm 30 33554431)); rfl; rfl; rfl; rfl; kernel_rfl; kernel_rfl; (first | exact hS | exact hS.tail | exact hS.sublist (by repeat (first | exact List.Sublist.refl _ | refine .cons_cons _ ?_ | refine .cons _ ?_))); rfl) | (apply RH.takeUndef (i := 24) (listed := (bm 30 16777215)) (listed' := (bm 30 33554431)); rfl; rfl; rfl; kernel_rfl; kernel_rfl; (first | exact hS | exact hS.tail | exact hS.sublist (by repeat (first | exact List.Sublist.refl _ | refine .cons_cons _ ?_ | refine .cons _ ?_))); rfl)))
              all_goals
                apply RH.all1 (i := 25) (listed := (bm 30 33554431))
                · kernel_rfl
                · first | (apply RI.no (i := 25) (listed := (bm 30 33554431)) (listed' := (bm 30 67108863)); rfl; rfl; rfl; rfl; kernel_rfl; rfl; (first | exact hS | exact hS.tail | exact hS.sublist (by repeat (first | exact List.Sublist.refl _ | refine .cons_cons _ ?_ | refine .cons _ ?_)))) | (apply RI.noUndef (i := 25) (listed := (bm 30 33554431)) (listed' := (bm 30 67108863)); rfl; rfl; rfl; kernel_rfl; rfl; (first | exact hS | exact hS.tail | exact hS.sublist (by repeat (first | exact List.Sublist.refl _ | refine .cons_cons _ ?_ | refine .cons _ ?_)))) | (apply RI.yes (i := 25) (listed := (bm 30 33554431)) (listed' := (bm 30 67108863)); rfl; rfl; rfl; kernel_rfl)
                  all_goals try first
                  | (apply OP.callF; rfl; rfl; rfl; show Cl _ 21 _ _ _; exact refHas_is hk hS; clear hS; rintro v w1 ⟨rfl, hS⟩; refine ⟨(by first | exact hS | exact hS.tail | exact hS.sublist (by repeat (first | exact List.Sublist.refl _ | refine .cons_cons _ ?_ | refine .cons _ ?_))), ?_⟩)
                  | (apply OP.callF; rfl; rfl; rfl; show Cl _ 27 _ _ _; exact refHonest hl hle hS; clear hS; intro v2 w1 hS; obtain ⟨ph, ch, rfl⟩ := vec_slice hS; refine ⟨(by first | exact hS | exact hS.tail | exact hS.sublist (by repeat (first | exact List.Sublist.refl _ | refine .cons_cons _ ?_ | refine .cons _ ?_))), ?_⟩)
                  | (refine OP.still (by exact Still.any) hS rfl ⟨(by first | exact hS | exact hS.tail | exact hS.sublist (by repeat (first | exact List.Sublist.refl _ | refine .cons_cons _ ?_ | refine .cons _ ?_))), ?_⟩)
                  all_goals (first | (apply RH.takeYes (i := 26) (listed := (bm 30 67108863)) (listed' := (bm 30 134217727)); rfl; rfl; rfl; kernel_rfl; kernel_rfl; (first | (apply Still.load; rfl; rfl; exact Rd.ro hmem; exact g0) | (apply Still.load; rfl; rfl; exact Rd.ro hmem; exact g1) | (apply Still.load; rfl; rfl; exact Rd.ro hmem; exact g3) | (apply Still.load; rfl; rfl; (exact Rd.any); exact fcan) | (exact Still.any)); (first | exact hS | exact hS.tail | exact hS.sublist (by repeat (first | exact List.Sublist.refl _ | refine .cons_cons _ ?_ | refine .cons _ ?_))); rfl) | (first | (apply RH.takeNo (i := 26) (listed := (bm 30 67108863)) (listed' := (bm 30 134217727)); rfl; rfl; rfl; rfl; kernel_rfl; kernel_rfl; (first | exact hS | exact hS.tail | exact hS.sublist (by repeat (first | exact List.Sublist.refl _ | refine .cons_cons _ ?_ | refine .cons _ ?_))); rfl) | (apply RH.takeUndef (i := 26) (listed := (bm 30 67108863)) (listed' := (bm 30 134217727)); rfl; rfl; rfl; kernel_rfl; kernel_rfl; (first | exact hS | exact hS.tail | exact hS.sublist (by repeat (first | exact List.Sublist.refl _ | refine .cons_cons _ ?_ | refine .cons _ ?_))); rfl)))
                  all_goals (first | (apply RH.takeYes (i := 27) (listed := (bm 30 134217727)) (listed' := (bm 30 268435455)); rfl; rfl; rfl; kernel_rfl; kernel_rfl; (first | (apply Still.load; rfl; rfl; exact Rd.ro hmem; exact g0) | (apply Still.load; rfl; rfl; exact Rd.ro hmem; exact g1) | (apply Still.load; rfl; rfl; exact Rd.ro hmem; exact g3) | (apply Still.load; rfl; rfl; (exact Rd.any); exact fcan) | (apply Still.eql; rfl; rfl) | (apply Still.eqlB; rfl; rfl; rfl) | (apply Still.eqlS; rfl; rfl) | (apply Still.sliceNil; rfl; rfl; rfl; rfl) | (apply Still.mapNil; rfl; rfl; rfl; rfl) | (apply Still.ptrNil; rfl; rfl; rfl; rfl)); (first | exact hS | exact hS.tail | exact hS.sublist (by repeat (first | exact List.Sublist.refl _ | refine .cons_cons _ ?_ | refine .cons _ ?_))); rfl) | (first | (apply RH.takeNo (i := 27) (listed := (bm 30 134217727)) (listed' := (bm 30 268435455)); rfl; rfl; rfl; rfl; kernel_rfl; kernel_rfl; (first | exact hS | exact hS.tail | exact hS.sublist (by repeat (first | exact List.Sublist.refl _ | refine .cons_cons _ ?_ | refine .cons _ ?_))); rfl) | (apply RH.takeUndef (i := 27) (listed := (bm 30 134217727)) (listed' := (bm 30 268435455)); rfl; rfl; rfl; kernel_rfl; kernel_rfl; (first | exact hS | exact hS.tail | exact hS.sublist (by repeat (first | exact List.Sublist.refl _ | refine .cons_cons _ ?_ | refine .cons _ ?_))); rfl)))
                  all_goals (try (refine RH.split ?_ ?_ <;> intro hc <;> try (first | (exfalso; omega) | exact absurd rfl hc | exact Bool.noConfusion hc)))
                  all_goals (apply RH.take (i := 28) (listed := (bm 30 268435455)) (listed' := (bm 30 536870911)); rfl; kernel_rfl; kernel_rfl; (first | (apply Still.pickT; rfl; rfl) | (apply Still.pickF; rfl; rfl)); (first | exact hS | exact hS.tail | exact hS.sublist (by repeat (first | exact List.Sublist.refl _ | refine .cons_cons _ ?_ | refine .cons _ ?_))); rfl)
                  all_goals (apply RH.take (i := 29) (listed := (bm 30 536870911)) (listed' := (bm 30 1073741823)); rfl; kernel_rfl; kernel_rfl; (apply Still.assign; rfl); (first | exact hS | exact hS.tail | exact hS.sublist (by repeat (first | exact List.Sublist.refl _ | refine .cons_cons _ ?_ | refine .cons _ ?_))); rfl)
                  all_goals (apply RH.done (listed := (bm 30 1073741823)); kernel_rfl)
                  all_goals ((try (first | rw [decide_eq_true hc] | rw [decide_eq_false hc])); exact ⟨(), (by focus ((repeat (first | exact .nil | refine .cons rfl ?_)); done)), hS.picks (by focus ((repeat (first | apply Picks.all | apply Picks.nil | (refine Picks.cons (by repeat (first | apply Take.head | apply Take.tail)) ?_) | apply Picks.drop)); done))⟩)
        | false =>
          rw [hcan] at fcan hres
          rw [Bool.not_false, Bool.true_and] at hres
          subst hres
          refine RH.relist (listed' := bm 30 0) (by kernel_rfl) ?_
          all_goals (apply RH.take (i := 0) (listed := (bm 30 0)) (listed' := (bm 30 1)); rfl; kernel_rfl; kernel_rfl; (first | (apply Still.load; rfl; rfl; exact Rd.ro hmem; exact g0) | (apply Still.load; rfl; rfl; exact Rd.ro hmem; exact g1) | (apply Still.load; rfl; rfl; exact Rd.ro hmem; exact g3) | (apply Still.load; rfl; rfl; (exact Rd.any); exact fcan) | (apply Still.load; rfl; rfl; (exact Rd.any); (first | rfl | exact flat_get0 (by assumption) | exact flat_get1 (by assumption) | exact flat_get2 (by assumption) | exact flat_get3 (by assumption) | exact flat_get4 (by assumption))) | (apply Still.loadAgg; rfl; rfl; (exact eqAuto); (exact Rd.any); (first | exact flat_take (by assumption) | rfl); rfl)); (first | exact hS | exact hS.tail | exact hS.sublist (by repeat (first | exact List.Sublist.refl _ | refine .cons_cons _ ?_ | refine .cons _ ?_))); rfl)
          all_goals (apply RH.take (i := 1) (listed := (bm 30 1)) (listed' := (bm 30 3)); rfl; kernel_rfl; kernel_rfl; (apply Still.move; rfl); (first | exact hS | exact hS.tail | exact hS.sublist (by repeat (first | exact List.Sublist.refl _ | refine .cons_cons _ ?_ | refine .cons _ ?_))); rfl)
          all_goals (apply RH.take (i := 2) (listed := (bm 30 3)) (listed' := (bm 30 7)); rfl; kernel_rfl; kernel_rfl; (apply Still.move; rfl); (first | exact hS | exact hS.tail | exact hS.sublist (by repeat (first | exact List.Sublist.refl _ | refine .cons_cons _ ?_ | refine .cons _ ?_))); rfl)
          all_goals (apply RH.take (i := 3) (listed := (bm 30 7)) (listed' := (bm 30 15)); rfl; kernel_rfl; kernel_rfl; (first | (exact Still.any) | (apply Still.indexAddrA; rfl; rfl; rfl; (exact eqAuto); omega; omega; (first | (simp only [Int.toNat_natCast, Nat.mul_one, Nat.zero_add, Int.reduceToNat, Nat.reduceMul, Nat.reduceAdd, Nat.zero_mul]; exact rfl) | rfl))); (first | exact hS | exact hS.tail | exact hS.sublist (by repeat (first | exact List.Sublist.refl _ | refine .cons_cons _ ?_ | refine .cons _ ?_))); rfl)
          all_goals (apply RH.take (i := 4) (listed := (bm 30 15)) (listed' := (bm 30 31)); rfl; kernel_rfl; kernel_rfl; (apply Still.fieldAddr; rfl; (exact eqAuto)); (first | exact hS | exact hS.tail | exact hS.sublist (by repeat (first | exact List.Sublist.refl _ | refine .cons_cons _ ?_ | refine .cons _ ?_))); rfl)
          all_goals (apply RH.take (i := 5) (listed := (bm 30 31)) (listed' := (bm 30 63)); rfl; kernel_rfl; kernel_rfl; (first | (apply Still.load; rfl; rfl; exact Rd.ro hmem; exact g0) | (apply Still.load; rfl; rfl; exact Rd.ro hmem; exact g1) | (apply Still.load; rfl; rfl; exact Rd.ro hmem; exact g3) | (apply Still.load; rfl; rfl; (exact Rd.any); exact fcan) | (apply Still.load; rfl; rfl; (exact Rd.any); (first | rfl | exact flat_get0 (by assumption) | exact flat_get1 (by assumption) | exact flat_get2 (by assumption) | exact flat_get3 (by assumption) | exact flat_get4 (by assumption))) | (apply Still.loadAgg; rfl; rfl; (exact eqAuto); (exact Rd.any); (first | exact flat_take (by assumption) | rfl); rfl)); (first | exact hS | exact hS.tail | exact hS.sublist (by repeat (first | exact List.Sublist.refl _ | refine .cons_cons _ ?_ | refine .cons _ ?_))); rfl)
          all_goals
            apply RH.all1 (i := 6) (listed := (bm 30 63))
            · kernel_rfl
            · apply RI.op (i := 6) (listed := (bm 30 63)) (listed' := (bm 30 127)); rfl; kernel_rfl
              all_goals try first
              | (apply OP.callF; rfl; rfl; rfl; show Cl _ 21 _ _ _; exact refHas_is hk hS; clear hS; rintro v w1 ⟨rfl, hS⟩; refine ⟨(by first | exact hS | exact hS.tail | exact hS.sublist (by repeat (first | exact List.Sublist.refl _ | refine .cons_cons _ ?_ | refine .cons _ ?_))), ?_⟩)
              | (apply OP.callF; rfl; rfl; rfl; show Cl _ 27 _ _ _; exact refHonest hl hle hS; clear hS; intro v2 w1 hS; obtain ⟨ph, ch, rfl⟩ := vec_slice hS; refine ⟨(by first | exact hS | exact hS.tail | exact hS.sublist (by repeat (first | exact List.Sublist.refl _ | refine .cons_cons _ ?_ | refine .cons _ ?_))), ?_⟩)
              | (refine OP.still (by exact Still.any) hS rfl ⟨(by first | exact hS | exact hS.tail | exact hS.sublist (by repeat (first | exact List.Sublist.refl _ | refine .cons_cons _ ?_ | refine .cons _ ?_))), ?_⟩)
              all_goals (apply RH.take (i := 7) (listed := (bm 30 127)) (listed' := (bm 30 255)); rfl; kernel_rfl; kernel_rfl; (apply Still.move; rfl); (first | exact hS | exact hS.tail | exact hS.sublist (by repeat (first | exact List.Sublist.refl _ | refine .cons_cons _ ?_ | refine .cons _ ?_))); rfl)
              all_goals (first | (apply RH.takeYes (i := 8) (listed := (bm 30 255)) (listed' := (bm 30 511)); rfl; rfl; rfl; kernel_rfl; kernel_rfl; (apply Still.move; rfl); (first | exact hS | exact hS.tail | exact hS.sublist (by repeat (first | exact List.Sublist.refl _ | refine .cons_cons _ ?_ | refine .cons _ ?_))); rfl) | (first | (apply RH.takeNo (i := 8) (listed := (bm 30 255)) (listed' := (bm 30 511)); rfl; rfl; rfl; rfl; kernel_rfl; kernel_rfl; (first | exact hS | exact hS.tail | exact hS.sublist (by repeat (first | exact List.Sublist.refl _ | refine .cons_cons _ ?_ | refine .cons _ ?_))); rfl) | (apply RH.takeUndef (i := 8) (listed := (bm 30 255)) (listed' := (bm 30 511)); rfl; rfl; rfl; kernel_rfl; kernel_rfl; (first | exact hS | exact hS.tail | exact hS.sublist (by repeat (first | exact List.Sublist.refl _ | refine .cons_cons _ ?_ | refine .cons _ ?_))); rfl)))
              all_goals (first | (apply RH.takeYes (i := 9) (listed := (bm 30 511)) (listed' := (bm 30 1023)); rfl; rfl; rfl; kernel_rfl; kernel_rfl; (apply Still.move; rfl); (first | exact hS | exact hS.tail | exact hS.sublist (by repeat (first | exact List.Sublist.refl _ | refine .cons_cons _ ?_ | refine .cons _ ?_))); rfl) | (first | (apply RH.takeNo (i := 9) (listed := (bm 30 511)) (listed' := (bm 30 1023)); rfl; rfl; rfl; rfl; kernel_rfl; kernel_rfl; (first | exact hS | exact hS.tail | exact hS.sublist (by repeat (first | exact List.Sublist.refl _ | refine .cons_cons _ ?_ | refine .cons _ ?_))); rfl) | (apply RH.takeUndef (i := 9) (listed := (bm 30 511)) (listed' := (bm 30 1023)); rfl; rfl; rfl; kernel_rfl; kernel_rfl; (first | exact hS | exact hS.tail | exact hS.sublist (by repeat (first | exact List.Sublist.refl _ | refine .cons_cons _ ?_ | refine .cons _ ?_))); rfl)))
              all_goals (first | (apply RH.takeYes (i := 10) (listed := (bm 30 1023)) (listed' := (bm 30 2047)); rfl; rfl; rfl; kernel_rfl; kernel_rfl; (apply Still.move; rfl); (first | exact hS | exact hS.tail | exact hS.sublist (by repeat (first | exact List.Sublist.refl _ | refine .cons_cons _ ?_ | refine .cons _ ?_))); rfl) | (first | (apply RH.takeNo (i := 10) (listed := (bm 30 1023)) (listed' := (bm 30 2047)); rfl; rfl; rfl; rfl; kernel_rfl; kernel_rfl; (first | exact hS | exact hS.tail | exact hS.sublist (by repeat (first | exact List.Sublist.refl _ | refine .cons_cons _ ?_ | refine .cons _ ?_))); rfl) | (apply RH.takeUndef (i := 10) (listed := (bm 30 1023)) (listed' := (bm 30 2047)); rfl; rfl; rfl; kernel_rfl; kernel_rfl; (first | exact hS | exact hS.tail | exact hS.sublist (by repeat (first | exact List.Sublist.refl _ | refine .cons_cons _ ?_ | refine .cons _ ?_))); rfl)))
              all_goals (first | (apply RH.takeYes (i := 11) (listed := (bm 30 2047)) (listed' := (bm 30 4095)); rfl; rfl; rfl; kernel_rfl; kernel_rfl; (first | (exact Still.any) | (apply Still.indexAddrA; rfl; rfl; rfl; (exact eqAuto); omega; omega; (first | (simp only [Int.toNat_natCast, Nat.mul_one, Nat.zero_add, Int.reduceToNat, Nat.reduceMul, Nat.reduceAdd, Nat.zero_mul]; exact rfl) | rfl))); (first | exact hS | exact hS.tail | exact hS.sublist (by repeat (first | exact List.Sublist.refl _ | refine .cons_cons _ ?_ | refine .cons _ ?_))); rfl) | (first | (apply RH.takeNo (i := 11) (listed := (bm 30 2047)) (listed' := (bm 30 4095)); rfl; rfl; rfl; rfl; kernel_rfl; kernel_rfl; (first | exact hS | exact hS.tail | exact hS.sublist (by repeat (first | exact List.Sublist.refl _ | refine .cons_cons _ ?_ | refine .cons _ ?_))); rfl) | (apply RH.takeUndef (i := 11) (listed := (bm 30 2047)) (listed' := (bm 30 4095)); rfl; rfl; rfl; kernel_rfl; kernel_rfl; (first | exact hS | exact hS.tail | exact hS.sublist (by repeat (first | exact List.Sublist.refl _ | refine .cons_cons _ ?_ | refine .cons _ ?_))); rfl)))
              all_goals (first | (apply RH.takeYes (i := 12) (listed := (bm 30 4095)) (listed' := (bm 30 8191)); rfl; rfl; rfl; kernel_rfl; kernel_rfl; (apply Still.fieldAddr; rfl; (exact eqAuto)); (first | exact hS | exact hS.tail | exact hS.sublist (by repeat (first | exact List.Sublist.refl _ | refine .cons_cons _ ?_ | refine .cons _ ?_))); rfl) | (first | (apply RH.takeNo (i := 12) (listed := (bm 30 4095)) (listed' := (bm 30 8191)); rfl; rfl; rfl; rfl; kernel_rfl; kernel_rfl; (first | exact hS | exact hS.tail | exact hS.sublist (by repeat (first | exact List.Sublist.refl _ | refine .cons_cons _ ?_ | refine .cons _ ?_))); rfl) | (apply RH.takeUndef (i := 12) (listed := (bm 30 4095)) (listed' := (bm 30 8191)); rfl; rfl; rfl; kernel_rfl; kernel_rfl; (first | exact hS | exact hS.tail | exact hS.sublist (by repeat (first | exact List.Sublist.refl _ | refine .cons_cons _ ?_ | refine .cons _ ?_))); rfl)))
              all_goals (first | (apply RH.takeYes (i := 13) (listed := (bm 30 8191)) (listed' := (bm 30 16383)); rfl; rfl; rfl; kernel_rfl; kernel_rfl; (first | (apply Still.load; rfl; rfl; exact Rd.ro hmem; exact g0) | (apply Still.load; rfl; rfl; exact Rd.ro hmem; exact g1) | (apply Still.load; rfl; rfl; exact Rd.ro hmem; exact g3) | (apply Still.load; rfl; rfl; (exact Rd.any); exact fcan) | (apply Still.load; rfl; rfl; (exact Rd.any); (first | rfl | exact flat_get0 (by assumption) | exact flat_get1 (by assumption) | exact flat_get2 (by assumption) | exact flat_get3 (by assumption) | exact flat_get4 (by assumption))) | (apply Still.loadAgg; rfl; rfl; (exact eqAuto); (exact Rd.any); (first | exact flat_take (by assumption) | rfl); rfl)); (first | exact hS | exact hS.tail | exact hS.sublist (by repeat (first | exact List.Sublist.refl _ | refine .cons_cons _ ?_ | refine .cons _ ?_))); rfl) | (first | (apply RH.takeNo (i := 13) (listed := (bm 30 8191)) (listed' := (bm 30 16383)); rfl; rfl; rfl; rfl; kernel_rfl; kernel_rfl; (first | exact hS | exact hS.tail | exact hS.sublist (by repeat (first | exact List.Sublist.refl _ | refine .cons_cons _ ?_ | refine .cons _ ?_))); rfl) | (apply RH.takeUndef (i := 13) (listed := (bm 30 8191)) (listed' := (bm 30 16383)); rfl; rfl; rfl; kernel_rfl; kernel_rfl; (first | exact hS | exact hS.tail | exact hS.sublist (by repeat (first | exact List.Sublist.refl _ | refine .cons_cons _ ?_ | refine .cons _ ?_))); rfl)))
              all_goals (first | (apply RH.takeYes (i := 14) (listed := (bm 30 16383)) (listed' := (bm 30 32767)); rfl; rfl; rfl; kernel_rfl; kernel_rfl; (first | (exact Still.any) | (apply Still.indexAddrA; rfl; rfl; rfl; (exact eqAuto); omega; omega; (first | (simp only [Int.toNat_natCast, Nat.mul_one, Nat.zero_add, Int.reduceToNat, Nat.reduceMul, Nat.reduceAdd, Nat.zero_mul]; exact rfl) | rfl))); (first | exact hS | exact hS.tail | exact hS.sublist (by repeat (first | exact List.Sublist.refl _ | refine .cons_cons _ ?_ | refine .cons _ ?_))); rfl) | (first | (apply RH.takeNo (i := 14) (listed := (bm 30 16383)) (listed' := (bm 30 32767)); rfl; rfl; rfl; rfl; kernel_rfl; kernel_rfl; (first | exact hS | exact hS.tail | exact hS.sublist (by repeat (first | exact List.Sublist.refl _ | refine .cons_cons _ ?_ | refine .cons _ ?_))); rfl) | (apply RH.takeUndef (i := 14) (listed := (bm 30 16383)) (listed' := (bm 30 32767)); rfl; rfl; rfl; kernel_rfl; kernel_rfl; (first | exact hS | exact hS.tail | exact hS.sublist (by repeat (first | exact List.Sublist.refl _ | refine .cons_cons _ ?_ | refine .cons _ ?_))); rfl)))
              all_goals (first | (apply RH.takeYes (i := 15) (listed := (bm 30 32767)) (listed' := (bm 30 65535)); rfl; rfl; rfl; kernel_rfl; kernel_rfl; (first | (apply Still.load; rfl; rfl; exact Rd.ro hmem; exact g0) | (apply Still.load; rfl; rfl; exact Rd.ro hmem; exact g1) | (apply Still.load; rfl; rfl; exact Rd.ro hmem; exact g3) | (apply Still.load; rfl; rfl; (exact Rd.any); exact fcan) | (apply Still.load; rfl; rfl; (exact Rd.any); (first | rfl | exact flat_get0 (by assumption) | exact flat_get1 (by assumption) | exact flat_get2 (by assumption) | exact flat_get3 (by assumption) | exact flat_get4 (by assumption))) | (apply Still.loadAgg; rfl; rfl; (exact eqAuto); (exact Rd.any); (first | exact flat_take (by assumption) | rfl); rfl)); (first | exact hS | exact hS.tail | exact hS.sublist (by repeat (first | exact List.Sublist.refl _ | refine .cons_cons _ ?_ | refine .cons _ ?_))); rfl) | (first | (apply RH.takeNo (i := 15) (listed := (bm 30 32767)) (listed' := (bm 30 65535)); rfl; rfl; rfl; rfl; kernel_rfl; kernel_rfl; (first | exact hS | exact hS.tail | exact hS.sublist (by repeat (first | exact List.Sublist.refl _ | refine .cons_cons _ ?_ | refine .cons _ ?_))); rfl) | (apply RH.takeUndef (i := 15) (listed := (bm 30 32767)) (listed' := (bm 30 65535)); rfl; rfl; rfl; kernel_rfl; kernel_rfl; (first | exact hS | exact hS.tail | exact hS.sublist (by repeat (first | exact List.Sublist.refl _ | refine .cons_cons _ ?_ | refine .cons _ ?_))); rfl)))
              all_goals (apply RH.take (i := 16) (listed := (bm 30 65535)) (listed' := (bm 30 131071)); rfl; kernel_rfl; kernel_rfl; (first | (apply Still.pickT; rfl; rfl) | (apply Still.pickF; rfl; rfl)); (first | exact hS | exact hS.tail | exact hS.sublist (by repeat (first | exact List.Sublist.refl _ | refine .cons_cons _ ?_ | refine .cons _ ?_))); rfl)
              all_goals (apply RH.take (i := 17) (listed := (bm 30 131071)) (listed' := (bm 30 262143)); rfl; kernel_rfl; kernel_rfl; (first | (apply Still.not; rfl; rfl) | (apply Still.neg; rfl; (first | exact wrap_i64 (by omega) (by omega) | exact wrap_u64 (by omega) (by omega) | rfl))); (first | exact hS | exact hS.tail | exact hS.sublist (by repeat (first | exact List.Sublist.refl _ | refine .cons_cons _ ?_ | refine .cons _ ?_))); rfl)
              all_goals (apply RH.take (i := 18) (listed := (bm 30 262143)) (listed' := (bm 30 524287)); rfl; kernel_rfl; kernel_rfl; (apply Still.move; rfl); (first | exact hS | exact hS.tail | exact hS.sublist (by repeat (first | exact List.Sublist.refl _ | refine .cons_cons _ ?_ | refine .cons _ ?_))); rfl)
              all_goals (first | (apply RH.takeYes (i := 19) (listed := (bm 30 524287)) (listed' := (bm 30 1048575)); rfl; rfl; rfl; kernel_rfl; kernel_rfl; (apply Still.move; rfl); (first | exact hS | exact hS.tail | exact hS.sublist (by repeat (first | exact List.Sublist.refl _ | refine .cons_cons _ ?_ | refine .cons _ ?_))); rfl) | (first | (apply RH.takeNo (i := 19) (listed := (bm 30 524287)) (listed' := (bm 30 1048575)); rfl; rfl; rfl; rfl; kernel_rfl; kernel_rfl; (first | exact hS | exact hS.tail | exact hS.sublist (by repeat (first | exact List.Sublist.refl _ | refine .cons_cons _ ?_ | refine .cons _ ?_))); rfl) | (apply RH.takeUndef (i := 19) (listed := (bm 30 524287)) (listed' := (bm 30 1048575)); rfl; rfl; rfl; kernel_rfl; kernel_rfl; (first | exact hS | exact hS.tail | exact hS.sublist (by repeat (first | exact List.Sublist.refl _ | refine .cons_cons _ ?_ | refine .cons _ ?_))); rfl)))
              all_goals (first | (apply RH.takeYes (i := 20) (listed := (bm 30 1048575)) (listed' := (bm 30 2097151)); rfl; rfl; rfl; kernel_rfl; kernel_rfl; (apply Still.move; rfl); (first | exact hS | exact hS.tail | exact hS.sublist (by repeat (first | exact List.Sublist.refl _ | refine .cons_cons _ ?_ | refine .cons _ ?_))); rfl) | (first | (apply RH.takeNo (i := 20) (listed := (bm 30 1048575)) (listed' := (bm 30 2097151)); rfl; rfl; rfl; rfl; kernel_rfl; kernel_rfl; (first | exact hS | exact hS.tail | exact hS.sublist (by repeat (first | exact List.Sublist.refl _ | refine .cons_cons _ ?_ | refine .cons _ ?_))); rfl) | (apply RH.takeUndef (i := 20) (listed := (bm 30 1048575)) (listed' := (bm 30 2097151)); rfl; rfl; rfl; kernel_rfl; kernel_rfl; (first | exact hS | exact hS.tail | exact hS.sublist (by repeat (first | exact List.Sublist.refl _ | refine .cons_cons _ ?_ | refine .cons _ ?_))); rfl)))
              all_goals (first | (apply RH.takeYes (i := 21) (listed := (bm 30 2097151)) (listed' := (bm 30 4194303)); rfl; rfl; rfl; kernel_rfl; kernel_rfl; (apply Still.move; rfl); (first | exact hS | exact hS.tail | exact hS.sublist (by repeat (first | exact List.Sublist.refl _ | refine .cons_cons _ ?_ | refine .cons _ ?_))); rfl) | (first | (apply RH.takeNo (i := 21) (listed := (bm 30 2097151)) (listed' := (bm 30 4194303)); rfl; rfl; rfl; rfl; kernel_rfl; kernel_rfl; (first | exact hS | exact hS.tail | exact hS.sublist (by repeat (first | exact List.Sublist.refl _ | refine .cons_cons _ ?_ | refine .cons _ ?_))); rfl) | (apply RH.takeUndef (i := 21) (listed := (bm 30 2097151)) (listed' := (bm 30 4194303)); rfl; rfl; rfl; kernel_rfl; kernel_rfl; (first | exact hS | exact hS.tail | exact hS.sublist (by repeat (first | exact List.Sublist.refl _ | refine .cons_cons _ ?_ | refine .cons _ ?_))); rfl)))
              all_goals (first | (apply RH.takeYes (i := 22) (listed := (bm 30 4194303)) (listed' := (bm 30 8388607)); rfl; rfl; rfl; kernel_rfl; kernel_rfl; (first | (exact Still.any) | (apply Still.indexAddrA; rfl; rfl; rfl; (exact eqAuto); omega; omega; (first | (simp only [Int.toNat_natCast, Nat.mul_one, Nat.zero_add, Int.reduceToNat, Nat.reduceMul, Nat.reduceAdd, Nat.zero_mul]; exact rfl) | rfl))); (first | exact hS | exact hS.tail | exact hS.sublist (by repeat (first | exact List.Sublist.refl _ | refine .cons_cons _ ?_ | refine .cons _ ?_))); rfl) | (first | (apply RH.takeNo (i := 22) (listed := (bm 30 4194303)) (listed' := (bm 30 8388607)); rfl; rfl; rfl; rfl; kernel_rfl; kernel_rfl; (first | exact hS | exact hS.tail | exact hS.sublist (by repeat (first | exact List.Sublist.refl _ | refine .cons_cons _ ?_ | refine .cons _ ?_))); rfl) | (apply RH.takeUndef (i := 22) (listed := (bm 30 4194303)) (listed' := (bm 30 8388607)); rfl; rfl; rfl; kernel_rfl; kernel_rfl; (first | exact hS | exact hS.tail | exact hS.sublist (by repeat (first | exact List.Sublist.refl _ | refine .cons_cons _ ?_ | refine .cons _ ?_))); rfl)))
              all_goals (first | (apply RH.takeYes (i := 23) (listed := (bm 30 8388607)) (listed' := (bm 30 16777215)); rfl; rfl; rfl; kernel_rfl; kernel_rfl; (apply Still.fieldAddr; rfl; (exact eqAuto)); (first | exact hS | exact hS.tail | exact hS.sublist (by repeat (first | exact List.Sublist.refl _ | refine .cons_cons _ ?_ | refine .cons _ ?_))); rfl) | (first | (apply RH.takeNo (i := 23) (listed := (bm 30 8388607)) (listed' := (bm 30 16777215)); rfl; rfl; rfl; rfl; kernel_rfl; kernel_rfl; (first | exact hS | exact hS.tail | exact hS.sublist (by repeat (first | exact List.Sublist.refl _ | refine .cons_cons _ ?_ | refine .cons _ ?_))); rfl) | (apply RH.takeUndef (i := 23) (listed := (bm 30 8388607)) (listed' := (bm 30 16777215)); rfl; rfl; rfl; kernel_rfl; kernel_rfl; (first | exact hS | exact hS.tail | exact hS.sublist (by repeat (first | exact List.Sublist.refl _ | refine .cons_cons _ ?_ | refine .cons _ ?_))); rfl)))
              all_goals (first | (apply RH.takeYes (i := 24) (listed := (bm 30 16777215)) (listed' := (bm 30 33554431)); rfl; rfl; rfl; kernel_rfl; kernel_rfl; (first | (apply Still.load; rfl; rfl; exact Rd.ro hmem; exact g0) | (apply Still.load; rfl; rfl; exact Rd.ro hmem; exact g1) | (apply Still.load; rfl; rfl; exact Rd.ro hmem; exact g3) | (apply Still.load; rfl; rfl; (exact Rd.any); exact fcan) | (apply Still.load; rfl; rfl; (exact Rd.any); (first | rfl | exact flat_get0 (by assumption) | exact flat_get1 (by assumption) | exact flat_get2 (by assumption) | exact flat_get3 (by assumption) | exact flat_get4 (by assumption))) | (apply Still.loadAgg; rfl; rfl; (exact eqAuto); (exact Rd.any); (first | exact flat_take (by assumption) | rfl); rfl)); (first | exact hS | exact hS.tail | exact hS.sublist (by repeat (first | exact List.Sublist.refl _ | refine .cons_cons _ ?_ | refine .cons _ ?_))); rfl) | (first | (apply RH.takeNo (i := 24) (listed := (bm 30 16777215)) (listed' := (bm 30 33554431)); rfl; rfl; rfl; rfl; kernel_rfl; kernel_rfl; (first | exact hS | exact hS.tail | exact hS.sublist (by repeat (first | exact List.Sublist.refl _ | refine .cons_cons _ ?_ | refine .cons _ ?_))); rfl) | (apply RH.takeUndef (i := 24) (listed := (bm 30 16777215)) (listed' := (bm 30 33554431)); rfl; rfl; rfl; kernel_rfl; kernel_rfl; (first | exact hS | exact hS.tail | exact hS.sublist (by repeat (first | exact List.Sublist.refl _ | refine .cons_cons _ ?_ | refine .cons _ ?_))); rfl)))
              all_goals
                apply RH.all1 (i := 25) (listed := (bm 30 33554431))
                · kernel_rfl
                · first | (apply RI.no (i := 25) (listed := (bm 30 33554431)) (listed' := (bm 30 67108863)); rfl; rfl; rfl; rfl; kernel_rfl; rfl; (first | exact hS | exact hS.tail | exact hS.sublist (by repeat (first | exact List.Sublist.refl _ | refine .cons_cons _ ?_ | refine .cons _ ?_)))) | (apply RI.noUndef (i := 25) (listed := (bm 30 33554431)) (listed' := (bm 30 67108863)); rfl; rfl; rfl; kernel_rfl; rfl; (first | exact hS | exact hS.tail | exact hS.sublist (by repeat (first | exact List.Sublist.refl _ | refine .cons_cons _ ?_ | refine .cons _ ?_)))) | (apply RI.yes (i := 25) (listed := (bm 30 33554431)) (listed' := (bm 30 67108863)); rfl; rfl; rfl; kernel_rfl)
                  all_goals try first
                  | (apply OP.callF; rfl; rfl; rfl; show Cl _ 21 _ _ _; exact refHas_is hk hS; clear hS; rintro v w1 ⟨rfl, hS⟩; refine ⟨(by first | exact hS | exact hS.tail | exact hS.sublist (by repeat (first | exact List.Sublist.refl _ | refine .cons_cons _ ?_ | refine .cons _ ?_))), ?_⟩)
                  | (apply OP.callF; rfl; rfl; rfl; show Cl _ 27 _ _ _; exact refHonest hl hle hS; clear hS; intro v2 w1 hS; obtain ⟨ph, ch, rfl⟩ := vec_slice hS; refine ⟨(by first | exact hS | exact hS.tail | exact hS.sublist (by repeat (first | exact List.Sublist.refl _ | refine .cons_cons _ ?_ | refine .cons _ ?_))), ?_⟩)
                  | (refine OP.still (by exact Still.any) hS rfl ⟨(by first | exact hS | exact hS.tail | exact hS.sublist (by repeat (first | exact List.Sublist.refl _ | refine .cons_cons _ ?_ | refine .cons _ ?_))), ?_⟩)
                  all_goals (first | (apply RH.takeYes (i := 26) (listed := (bm 30 67108863)) (listed' := (bm 30 134217727)); rfl; rfl; rfl; kernel_rfl; kernel_rfl; (first | (apply Still.load; rfl; rfl; exact Rd.ro hmem; exact g0) | (apply Still.load; rfl; rfl; exact Rd.ro hmem; exact g1) | (apply Still.load; rfl; rfl; exact Rd.ro hmem; exact g3) | (apply Still.load; rfl; rfl; (exact Rd.any); exact fcan) | (exact Still.any)); (first | exact hS | exact hS.tail | exact hS.sublist (by repeat (first | exact List.Sublist.refl _ | refine .cons_cons _ ?_ | refine .cons _ ?_))); rfl) | (first | (apply RH.takeNo (i := 26) (listed := (bm 30 67108863)) (listed' := (bm 30 134217727)); rfl; rfl; rfl; rfl; kernel_rfl; kernel_rfl; (first | exact hS | exact hS.tail | exact hS.sublist (by repeat (first | exact List.Sublist.refl _ | refine .cons_cons _ ?_ | refine .cons _ ?_))); rfl) | (apply RH.takeUndef (i := 26) (listed := (bm 30 67108863)) (listed' := (bm 30 134217727)); rfl; rfl; rfl; kernel_rfl; kernel_rfl; (first | exact hS | exact hS.tail | exact hS.sublist (by repeat (first | exact List.Sublist.refl _ | refine .cons_cons _ ?_ | refine .cons _ ?_))); rfl)))
                  all_goals (first | (apply RH.takeYes (i := 27) (listed := (bm 30 134217727)) (listed' := (bm 30 268435455)); rfl; rfl; rfl; kernel_rfl; kernel_rfl; (first | (apply Still.load; rfl; rfl; exact Rd.ro hmem; exact g0) | (apply Still.load; rfl; rfl; exact Rd.ro hmem; exact g1) | (apply Still.load; rfl; rfl; exact Rd.ro hmem; exact g3) | (apply Still.load; rfl; rfl; (exact Rd.any); exact fcan) | (apply Still.eql; rfl; rfl) | (apply Still.eqlB; rfl; rfl; rfl) | (apply Still.eqlS; rfl; rfl) | (apply Still.sliceNil; rfl; rfl; rfl; rfl) | (apply Still.mapNil; rfl; rfl; rfl; rfl) | (apply Still.ptrNil; rfl; rfl; rfl; rfl)); (first | exact hS | exact hS.tail | exact hS.sublist (by repeat (first | exact List.Sublist.refl _ | refine .cons_cons _ ?_ | refine .cons _ ?_))); rfl) | (first | (apply RH.takeNo (i := 27) (listed := (bm 30 134217727)) (listed' := (bm 30 268435455)); rfl; rfl; rfl; rfl; kernel_rfl; kernel_rfl; (first | exact hS | exact hS.tail | exact hS.sublist (by repeat (first | exact List.Sublist.refl _ | refine .cons_cons _ ?_ | refine .cons _ ?_))); rfl) | (apply RH.takeUndef (i := 27) (listed := (bm 30 134217727)) (listed' := (bm 30 268435455)); rfl; rfl; rfl; kernel_rfl; kernel_rfl; (first | exact hS | exact hS.tail | exact hS.sublist (by repeat (first | exact List.Sublist.refl _ | refine .cons_cons _ ?_ | refine .cons _ ?_))); rfl)))
                  all_goals (try (refine RH.split ?_ ?_ <;> intro hc <;> try (first | (exfalso; omega) | exact absurd rfl hc | exact Bool.noConfusion hc)))
                  all_goals (apply RH.take (i := 28) (listed := (bm 30 268435455)) (listed' := (bm 30 536870911)); rfl; kernel_rfl; kernel_rfl; (first | (apply Still.pickT; rfl; rfl) | (apply Still.pickF; rfl; rfl)); (first | exact hS | exact hS.tail | exact hS.sublist (by repeat (first | exact List.Sublist.refl _ | refine .cons_cons _ ?_ | refine .cons _ ?_))); rfl)
                  all_goals (apply RH.take (i := 29) (listed := (bm 30 536870911)) (listed' := (bm 30 1073741823)); rfl; kernel_rfl; kernel_rfl; (apply Still.assign; rfl); (first | exact hS | exact hS.tail | exact hS.sublist (by repeat (first | exact List.Sublist.refl _ | refine .cons_cons _ ?_ | refine .cons _ ?_))); rfl)
                  all_goals (apply RH.done (listed := (bm 30 1073741823)); kernel_rfl)
                  all_goals ((try (first | rw [decide_eq_true hc] | rw [decide_eq_false hc])); exact ⟨(), (by focus ((repeat (first | exact .nil | refine .cons rfl ?_)); done)), hS.picks (by focus ((repeat (first | apply Picks.all | apply Picks.nil | (refine Picks.cons (by repeat (first | apply Take.head | apply Take.tail)) ?_) | apply Picks.drop)); done))⟩)
      | false =>
        have hcan := (key false hk).2 rfl
        rw [hcan, Bool.not_false, Bool.true_and] at hres
        subst hres
        refine RH.relist (listed' := bm 30 0) (by kernel_rfl) ?_
        all_goals (apply RH.take (i := 0) (listed := (bm 30 0)) (listed' := (bm 30 1)); rfl; kernel_rfl; kernel_rfl; (first | (apply Still.load; rfl; rfl; exact Rd.ro hmem; exact g0) | (apply Still.load; rfl; rfl; exact Rd.ro hmem; exact g1) | (apply Still.load; rfl; rfl; exact Rd.ro hmem; exact g3) | (apply Still.load; rfl; rfl; (exact Rd.any); exact fcan) | (apply Still.load; rfl; rfl; (exact Rd.any); (first | rfl | exact flat_get0 (by assumption) | exact flat_get1 (by assumption) | exact flat_get2 (by assumption) | exact flat_get3 (by assumption) | exact flat_get4 (by assumption))) | (apply Still.loadAgg; rfl; rfl; (exact eqAuto); (exact Rd.any); (first | exact flat_take (by assumption) | rfl); rfl)); (first | exact hS | exact hS.tail | exact hS.sublist (by repeat (first | exact List.Sublist.refl _ | refine .cons_cons _ ?_ | refine .cons _ ?_))); rfl)
        all_goals (apply RH.take (i := 1) (listed := (bm 30 1)) (listed' := (bm 30 3)); rfl; kernel_rfl; kernel_rfl; (apply Still.move; rfl); (first | exact hS | exact hS.tail | exact hS.sublist (by repeat (first | exact List.Sublist.refl _ | refine .cons_cons _ ?_ | refine .cons _ ?_))); rfl)
        all_goals (apply RH.take (i := 2) (listed := (bm 30 3)) (listed' := (bm 30 7)); rfl; kernel_rfl; kernel_rfl; (apply Still.move; rfl); (first | exact hS | exact hS.tail | exact hS.sublist (by repeat (first | exact List.Sublist.refl _ | refine .cons_cons _ ?_ | refine .cons _ ?_))); rfl)
        all_goals (apply RH.take (i := 3) (listed := (bm 30 7)) (listed' := (bm 30 15)); rfl; kernel_rfl; kernel_rfl; (first | (exact Still.any) | (apply Still.indexAddrA; rfl; rfl; rfl; (exact eqAuto); omega; omega; (first | (simp only [Int.toNat_natCast, Nat.mul_one, Nat.zero_add, Int.reduceToNat, Nat.reduceMul, Nat.reduceAdd, Nat.zero_mul]; exact rfl) | rfl))); (first | exact hS | exact hS.tail | exact hS.sublist (by repeat (first | exact List.Sublist.refl _ | refine .cons_cons _ ?_ | refine .cons _ ?_))); rfl)
        all_goals (apply RH.take (i := 4) (listed := (bm 30 15)) (listed' := (bm 30 31)); rfl; kernel_rfl; kernel_rfl; (apply Still.fieldAddr; rfl; (exact eqAuto)); (first | exact hS | exact hS.tail | exact hS.sublist (by repeat (first | exact List.Sublist.refl _ | refine .cons_cons _ ?_ | refine .cons _ ?_))); rfl)
        all_goals (apply RH.take (i := 5) (listed := (bm 30 31)) (listed' := (bm 30 63)); rfl; kernel_rfl; kernel_rfl; (first | (apply Still.load; rfl; rfl; exact Rd.ro hmem; exact g0) | (apply Still.load; rfl; rfl; exact Rd.ro hmem; exact g1) | (apply Still.load; rfl; rfl; exact Rd.ro hmem; exact g3) | (apply Still.load; rfl; rfl; (exact Rd.any); exact fcan) | (apply Still.load; rfl; rfl; (exact Rd.any); (first | rfl | exact flat_get0 (by assumption) | exact flat_get1 (by assumption) | exact flat_get2 (by assumption) | exact flat_get3 (by assumption) | exact flat_get4 (by assumption))) | (apply Still.loadAgg; rfl; rfl; (exact eqAuto); (exact Rd.any); (first | exact flat_take (by assumption) | rfl); rfl)); (first | exact hS | exact hS.tail | exact hS.sublist (by repeat (first | exact List.Sublist.refl _ | refine .cons_cons _ ?_ | refine .cons _ ?_))); rfl)
        all_goals
          apply RH.all1 (i := 6) (listed := (bm 30 63))
          · kernel_rfl
          · apply RI.op (i := 6) (listed := (bm 30 63)) (listed' := (bm 30 127)); rfl; kernel_rfl
            all_goals try first
            | (apply OP.callF; rfl; rfl; rfl; show Cl _ 21 _ _ _; exact refHas_is hk hS; clear hS; rintro v w1 ⟨rfl, hS⟩; refine ⟨(by first | exact hS | exact hS.tail | exact hS.sublist (by repeat (first | exact List.Sublist.refl _ | refine .cons_cons _ ?_ | refine .cons _ ?_))), ?_⟩)
            | (apply OP.callF; rfl; rfl; rfl; show Cl _ 27 _ _ _; exact refHonest hl hle hS; clear hS; intro v2 w1 hS; obtain ⟨ph, ch, rfl⟩ := vec_slice hS; refine ⟨(by first | exact hS | exact hS.tail | exact hS.sublist (by repeat (first | exact List.Sublist.refl _ | refine .cons_cons _ ?_ | refine .cons _ ?_))), ?_⟩)
            | (refine OP.still (by exact Still.any) hS rfl ⟨(by first | exact hS | exact hS.tail | exact hS.sublist (by repeat (first | exact List.Sublist.refl _ | refine .cons_cons _ ?_ | refine .cons _ ?_))), ?_⟩)
            all_goals (apply RH.take (i := 7) (listed := (bm 30 127)) (listed' := (bm 30 255)); rfl; kernel_rfl; kernel_rfl; (apply Still.move; rfl); (first | exact hS | exact hS.tail | exact hS.sublist (by repeat (first | exact List.Sublist.refl _ | refine .cons_cons _ ?_ | refine .cons _ ?_))); rfl)
            all_goals (first | (apply RH.takeYes (i := 8) (listed := (bm 30 255)) (listed' := (bm 30 511)); rfl; rfl; rfl; kernel_rfl; kernel_rfl; (apply Still.move; rfl); (first | exact hS | exact hS.tail | exact hS.sublist (by repeat (first | exact List.Sublist.refl _ | refine .cons_cons _ ?_ | refine .cons _ ?_))); rfl) | (first | (apply RH.takeNo (i := 8) (listed := (bm 30 255)) (listed' := (bm 30 511)); rfl; rfl; rfl; rfl; kernel_rfl; kernel_rfl; (first | exact hS | exact hS.tail | exact hS.sublist (by repeat (first | exact List.Sublist.refl _ | refine .cons_cons _ ?_ | refine .cons _ ?_))); rfl) | (apply RH.takeUndef (i := 8) (listed := (bm 30 255)) (listed' := (bm 30 511)); rfl; rfl; rfl; kernel_rfl; kernel_rfl; (first | exact hS | exact hS.tail | exact hS.sublist (by repeat (first | exact List.Sublist.refl _ | refine .cons_cons _ ?_ | refine .cons _ ?_))); rfl)))
            all_goals (first | (apply RH.takeYes (i := 9) (listed := (bm 30 511)) (listed' := (bm 30 1023)); rfl; rfl; rfl; kernel_rfl; kernel_rfl; (apply Still.move; rfl); (first | exact hS | exact hS.tail | exact hS.sublist (by repeat (first | exact List.Sublist.refl _ | refine .cons_cons _ ?_ | refine .cons _ ?_))); rfl) | (first | (apply RH.takeNo (i := 9) (listed := (bm 30 511)) (listed' := (bm 30 1023)); rfl; rfl; rfl; rfl; kernel_rfl; kernel_rfl; (first | exact hS | exact hS.tail | exact hS.sublist (by repeat (first | exact List.Sublist.refl _ | refine .cons_cons _ ?_ | refine .cons _ ?_))); rfl) | (apply RH.takeUndef (i := 9) (listed := (bm 30 511)) (listed' := (bm 30 1023)); rfl; rfl; rfl; kernel_rfl; kernel_rfl; (first | exact hS | exact hS.tail | exact hS.sublist (by repeat (first | exact List.Sublist.refl _ | refine .cons_cons _ ?_ | refine .cons _ ?_))); rfl)))
            all_goals (first | (apply RH.takeYes (i := 10) (listed := (bm 30 1023)) (listed' := (bm 30 2047)); rfl; rfl; rfl; kernel_rfl; kernel_rfl; (apply Still.move; rfl); (first | exact hS | exact hS.tail | exact hS.sublist (by repeat (first | exact List.Sublist.refl _ | refine .cons_cons _ ?_ | refine .cons _ ?_))); rfl) | (first | (apply RH.takeNo (i := 10) (listed := (bm 30 1023)) (listed' := (bm 30 2047)); rfl; rfl; rfl; rfl; kernel_rfl; kernel_rfl; (first | exact hS | exact hS.tail | exact hS.sublist (by repeat (first | exact List.Sublist.refl _ | refine .cons_cons _ ?_ | refine .cons _ ?_))); rfl) | (apply RH.takeUndef (i := 10) (listed := (bm 30 1023)) (listed' := (bm 30 2047)); rfl; rfl; rfl; kernel_rfl; kernel_rfl; (first | exact hS | exact hS.tail | exact hS.sublist (by repeat (first | exact List.Sublist.refl _ | refine .cons_cons _ ?_ | refine .cons _ ?_))); rfl)))
            all_goals (first | (apply RH.takeYes (i := 11) (listed := (bm 30 2047)) (listed' := (bm 30 4095)); rfl; rfl; rfl; kernel_rfl; kernel_rfl; (first | (exact Still.any) | (apply Still.indexAddrA; rfl; rfl; rfl; (exact eqAuto); omega; omega; (first | (simp only [Int.toNat_natCast, Nat.mul_one, Nat.zero_add, Int.reduceToNat, Nat.reduceMul, Nat.reduceAdd, Nat.zero_mul]; exact rfl) | rfl))); (first | exact hS | exact hS.tail | exact hS.sublist (by repeat (first | exact List.Sublist.refl _ | refine .cons_cons _ ?_ | refine .cons _ ?_))); rfl) | (first | (apply RH.takeNo (i := 11) (listed := (bm 30 2047)) (listed' := (bm 30 4095)); rfl; rfl; rfl; rfl; kernel_rfl; kernel_rfl; (first | exact hS | exact hS.tail | exact hS.sublist (by repeat (first | exact List.Sublist.refl _ | refine .cons_cons _ ?_ | refine .cons _ ?_))); rfl) | (apply RH.takeUndef (i := 11) (listed := (bm 30 2047)) (listed' := (bm 30 4095)); rfl; rfl; rfl; kernel_rfl; kernel_rfl; (first | exact hS | exact hS.tail | exact hS.sublist (by repeat (first | exact List.Sublist.refl _ | refine .cons_cons _ ?_ | refine .cons _ ?_))); rfl)))
            all_goals (first | (apply RH.takeYes (i := 12) (listed := (bm 30 4095)) (listed' := (bm 30 8191)); rfl; rfl; rfl; kernel_rfl; kernel_rfl; (apply Still.fieldAddr; rfl; (exact eqAuto)); (first | exact hS | exact hS.tail | exact hS.sublist (by repeat (first | exact List.Sublist.refl _ | refine .cons_cons _ ?_ | refine .cons _ ?_))); rfl) | (first | (apply RH.takeNo (i := 12) (listed := (bm 30 4095)) (listed' := (bm 30 8191)); rfl; rfl; rfl; rfl; kernel_rfl; kernel_rfl; (first | exact hS | exact hS.tail | exact hS.sublist (by repeat (first | exact List.Sublist.refl _ | refine .cons_cons _ ?_ | refine .cons _ ?_))); rfl) | (apply RH.takeUndef (i := 12) (listed := (bm 30 4095)) (listed' := (bm 30 8191)); rfl; rfl; rfl; kernel_rfl; kernel_rfl; (first | exact hS | exact hS.tail | exact hS.sublist (by repeat (first | exact List.Sublist.refl _ | refine .cons_cons _ ?_ | refine .cons _ ?_))); rfl)))
            all_goals (first | (apply RH.takeYes (i := 13) (listed := (bm 30 8191)) (listed' := (bm 30 16383)); rfl; rfl; rfl; kernel_rfl; kernel_rfl; (first | (apply Still.load; rfl; rfl; exact Rd.ro hmem; exact g0) | (apply Still.load; rfl; rfl; exact Rd.ro hmem; exact g1) | (apply Still.load; rfl; rfl; exact Rd.ro hmem; exact g3) | (apply Still.load; rfl; rfl; (exact Rd.any); exact fcan) | (apply Still.load; rfl; rfl; (exact Rd.any); (first | rfl | exact flat_get0 (by assumption) | exact flat_get1 (by assumption) | exact flat_get2 (by assumption) | exact flat_get3 (by assumption) | exact flat_get4 (by assumption))) | (apply Still.loadAgg; rfl; rfl; (exact eqAuto); (exact Rd.any); (first | exact flat_take (by assumption) | rfl); rfl)); (first | exact hS | exact hS.tail | exact hS.sublist (by repeat (first | exact List.Sublist.refl _ | refine .cons_cons _ ?_ | refine .cons _ ?_))); rfl) | (first | (apply RH.takeNo (i := 13) (listed := (bm 30 8191)) (listed' := (bm 30 16383)); rfl; rfl; rfl; rfl; kernel_rfl; kernel_rfl; (first | exact hS | exact hS.tail | exact hS.sublist (by repeat (first | exact List.Sublist.refl _ | refine .cons_cons _ ?_ | refine .cons _ ?_))); rfl) | (apply RH.takeUndef (i := 13) (listed := (bm 30 8191)) (listed' := (bm 30 16383)); rfl; rfl; rfl; kernel_rfl; kernel_rfl; (first | exact hS | exact hS.tail | exact hS.sublist (by repeat (first | exact List.Sublist.refl _ | refine .cons_cons _ ?_ | refine .cons _ ?_))); rfl)))
            all_goals (first | (apply RH.takeYes (i := 14) (listed := (bm 30 16383)) (listed' := (bm 30 32767)); rfl; rfl; rfl; kernel_rfl; kernel_rfl; (first | (exact Still.any) | (apply Still.indexAddrA; rfl; rfl; rfl; (exact eqAuto); omega; omega; (first | (simp only [Int.toNat_natCast, Nat.mul_one, Nat.zero_add, Int.reduceToNat, Nat.reduceMul, Nat.reduceAdd, Nat.zero_mul]; exact rfl) | rfl))); (first | exact hS | exact hS.tail | exact hS.sublist (by repeat (first | exact List.Sublist.refl _ | refine .cons_cons _ ?_ | refine .cons _ ?_))); rfl) | (first | (apply RH.takeNo (i := 14) (listed := (bm 30 16383)) (listed' := (bm 30 32767)); rfl; rfl; rfl; rfl; kernel_rfl; kernel_rfl; (first | exact hS | exact hS.tail | exact hS.sublist (by repeat (first | exact List.Sublist.refl _ | refine .cons_cons _ ?_ | refine .cons _ ?_))); rfl) | (apply RH.takeUndef (i := 14) (listed := (bm 30 16383)) (listed' := (bm 30 32767)); rfl; rfl; rfl; kernel_rfl; kernel_rfl; (first | exact hS | exact hS.tail | exact hS.sublist (by repeat (first | exact List.Sublist.refl _ | refine .cons_cons _ ?_ | refine .cons _ ?_))); rfl)))
            all_goals (first | (apply RH.takeYes (i := 15) (listed := (bm 30 32767)) (listed' := (bm 30 65535)); rfl; rfl; rfl; kernel_rfl; kernel_rfl; (first | (apply Still.load; rfl; rfl; exact Rd.ro hmem; exact g0) | (apply Still.load; rfl; rfl; exact Rd.ro hmem; exact g1) | (apply Still.load; rfl; rfl; exact Rd.ro hmem; exact g3) | (apply Still.load; rfl; rfl; (exact Rd.any); exact fcan) | (apply Still.load; rfl; rfl; (exact Rd.any); (first | rfl | exact flat_get0 (by assumption) | exact flat_get1 (by assumption) | exact flat_get2 (by assumption) | exact flat_get3 (by assumption) | exact flat_get4 (by assumption))) | (apply Still.loadAgg; rfl; rfl; (exact eqAuto); (exact Rd.any); (first | exact flat_take (by assumption) | rfl); rfl)); (first | exact hS | exact hS.tail | exact hS.sublist (by repeat (first | exact List.Sublist.refl _ | refine .cons_cons _ ?_ | refine .cons _ ?_))); rfl) | (first | (apply RH.takeNo (i := 15) (listed := (bm 30 32767)) (listed' := (bm 30 65535)); rfl; rfl; rfl; rfl; kernel_rfl; kernel_rfl; (first | exact hS | exact hS.tail | exact hS.sublist (by repeat (first | exact List.Sublist.refl _ | refine .cons_cons _ ?_ | refine .cons _ ?_))); rfl) | (apply RH.takeUndef (i := 15) (listed := (bm 30 32767)) (listed' := (bm 30 65535)); rfl; rfl; rfl; kernel_rfl; kernel_rfl; (first | exact hS | exact hS.tail | exact hS.sublist (by repeat (first | exact List.Sublist.refl _ | refine .cons_cons _ ?_ | refine .cons _ ?_))); rfl)))
            all_goals (apply RH.take (i := 16) (listed := (bm 30 65535)) (listed' := (bm 30 131071)); rfl; kernel_rfl; kernel_rfl; (first | (apply Still.pickT; rfl; rfl) | (apply Still.pickF; rfl; rfl)); (first | exact hS | exact hS.tail | exact hS.sublist (by repeat (first | exact List.Sublist.refl _ | refine .cons_cons _ ?_ | refine .cons _ ?_))); rfl)
            all_goals (apply RH.take (i := 17) (listed := (bm 30 131071)) (listed' := (bm 30 262143)); rfl; kernel_rfl; kernel_rfl; (first | (apply Still.not; rfl; rfl) | (apply Still.neg; rfl; (first | exact wrap_i64 (by omega) (by omega) | exact wrap_u64 (by omega) (by omega) | rfl))); (first | exact hS | exact hS.tail | exact hS.sublist (by repeat (first | exact List.Sublist.refl _ | refine .cons_cons _ ?_ | refine .cons _ ?_))); rfl)
            all_goals (apply RH.take (i := 18) (listed := (bm 30 262143)) (listed' := (bm 30 524287)); rfl; kernel_rfl; kernel_rfl; (apply Still.move; rfl); (first | exact hS | exact hS.tail | exact hS.sublist (by repeat (first | exact List.Sublist.refl _ | refine .cons_cons _ ?_ | refine .cons _ ?_))); rfl)
            all_goals (first | (apply RH.takeYes (i := 19) (listed := (bm 30 524287)) (listed' := (bm 30 1048575)); rfl; rfl; rfl; kernel_rfl; kernel_rfl; (apply Still.move; rfl); (first | exact hS | exact hS.tail | exact hS.sublist (by repeat (first | exact List.Sublist.refl _ | refine .cons_cons _ ?_ | refine .cons _ ?_))); rfl) | (first | (apply RH.takeNo (i := 19) (listed := (bm 30 524287)) (listed' := (bm 30 1048575)); rfl; rfl; rfl; rfl; kernel_rfl; kernel_rfl; (first | exact hS | exact hS.tail | exact hS.sublist (by repeat (first | exact List.Sublist.refl _ | refine .cons_cons _ ?_ | refine .cons _ ?_))); rfl) | (apply RH.takeUndef (i := 19) (listed := (bm 30 524287)) (listed' := (bm 30 1048575)); rfl; rfl; rfl; kernel_rfl; kernel_rfl; (first | exact hS | exact hS.tail | exact hS.sublist (by repeat (first | exact List.Sublist.refl _ | refine .cons_cons _ ?_ | refine .cons _ ?_))); rfl)))
            all_goals (first | (apply RH.takeYes (i := 20) (listed := (bm 30 1048575)) (listed' := (bm 30 2097151)); rfl; rfl; rfl; kernel_rfl; kernel_rfl; (apply Still.move; rfl); (first | exact hS | exact hS.tail | exact hS.sublist (by repeat (first | exact List.Sublist.refl _ | refine .cons_cons _ ?_ | refine .cons _ ?_))); rfl) | (first | (apply RH.takeNo (i := 20) (listed := (bm 30 1048575)) (listed' := (bm 30 2097151)); rfl; rfl; rfl; rfl; kernel_rfl; kernel_rfl; (first | exact hS | exact hS.tail | exact hS.sublist (by repeat (first | exact List.Sublist.refl _ | refine .cons_cons _ ?_ | refine .cons _ ?_))); rfl) | (apply RH.takeUndef (i := 20) (listed := (bm 30 1048575)) (listed' := (bm 30 2097151)); rfl; rfl; rfl; kernel_rfl; kernel_rfl; (first | exact hS | exact hS.tail | exact hS.sublist (by repeat (first | exact List.Sublist.refl _ | refine .cons_cons _ ?_ | refine .cons _ ?_))); rfl)))
            all_goals (first | (apply RH.takeYes (i := 21) (listed := (bm 30 2097151)) (listed' := (bm 30 4194303)); rfl; rfl; rfl; kernel_rfl; kernel_rfl; (apply Still.move; rfl); (first | exact hS | exact hS.tail | exact hS.sublist (by repeat (first | exact List.Sublist.refl _ | refine .cons_cons _ ?_ | refine .cons _ ?_))); rfl) | (first | (apply RH.takeNo (i := 21) (listed := (bm 30 2097151)) (listed' := (bm 30 4194303)); rfl; rfl; rfl; rfl; kernel_rfl; kernel_rfl; (first | exact hS | exact hS.tail | exact hS.sublist (by repeat (first | exact List.Sublist.refl _ | refine .cons_cons _ ?_ | refine .cons _ ?_))); rfl) | (apply RH.takeUndef (i := 21) (listed := (bm 30 2097151)) (listed' := (bm 30 4194303)); rfl; rfl; rfl; kernel_rfl; kernel_rfl; (first | exact hS | exact hS.tail | exact hS.sublist (by repeat (first | exact List.Sublist.refl _ | refine .cons_cons _ ?_ | refine .cons _ ?_))); rfl)))
            all_goals (first | (apply RH.takeYes (i := 22) (listed := (bm 30 4194303)) (listed' := (bm 30 8388607)); rfl; rfl; rfl; kernel_rfl; kernel_rfl; (first | (exact Still.any) | (apply Still.indexAddrA; rfl; rfl; rfl; (exact eqAuto); omega; omega; (first | (simp only [Int.toNat_natCast, Nat.mul_one, Nat.zero_add, Int.reduceToNat, Nat.reduceMul, Nat.reduceAdd, Nat.zero_mul]; exact rfl) | rfl))); (first | exact hS | exact hS.tail | exact hS.sublist (by repeat (first | exact List.Sublist.refl _ | refine .cons_cons _ ?_ | refine .cons _ ?_))); rfl) | (first | (apply RH.takeNo (i := 22) (listed := (bm 30 4194303)) (listed' := (bm 30 8388607)); rfl; rfl; rfl; rfl; kernel_rfl; kernel_rfl; (first | exact hS | exact hS.tail | exact hS.sublist (by repeat (first | exact List.Sublist.refl _ | refine .cons_cons _ ?_ | refine .cons _ ?_))); rfl) | (apply RH.takeUndef (i := 22) (listed := (bm 30 4194303)) (listed' := (bm 30 8388607)); rfl; rfl; rfl; kernel_rfl; kernel_rfl; (first | exact hS | exact hS.tail | exact hS.sublist (by repeat (first | exact List.Sublist.refl _ | refine .cons_cons _ ?_ | refine .cons _ ?_))); rfl)))
            all_goals (first | (apply RH.takeYes (i := 23) (listed := (bm 30 8388607)) (listed' := (bm 30 16777215)); rfl; rfl; rfl; kernel_rfl; kernel_rfl; (apply Still.fieldAddr; rfl; (exact eqAuto)); (first | exact hS | exact hS.tail | exact hS.sublist (by repeat (first | exact List.Sublist.refl _ | refine .cons_cons _ ?_ | refine .cons _ ?_))); rfl) | (first | (apply RH.takeNo (i := 23) (listed := (bm 30 8388607)) (listed' := (bm 30 16777215)); rfl; rfl; rfl; rfl; kernel_rfl; kernel_rfl; (first | exact hS | exact hS.tail | exact hS.sublist (by repeat (first | exact List.Sublist.refl _ | refine .cons_cons _ ?_ | refine .cons _ ?_))); rfl) | (apply RH.takeUndef (i := 23) (listed := (bm 30 8388607)) (listed' := (bm 30 16777215)); rfl; rfl; rfl; kernel_rfl; kernel_rfl; (first | exact hS | exact hS.tail | exact hS.sublist (by repeat (first | exact List.Sublist.refl _ | refine .cons_cons _ ?_ | refine .cons _ ?_))); rfl)))
            all_goals (first | (apply RH.takeYes (i := 24) (listed := (bm 30 16777215)) (listed' := (bm 30 33554431)); rfl; rfl; rfl; kernel_rfl; kernel_rfl; (first | (apply Still.load; rfl; rfl; exact Rd.ro hmem; exact g0) | (apply Still.load; rfl; rfl; exact Rd.ro hmem; exact g1) | (apply Still.load; rfl; rfl; exact Rd.ro hmem; exact g3) | (apply Still.load; rfl; rfl; (exact Rd.any); exact fcan) | (apply Still.load; rfl; rfl; (exact Rd.any); (first | rfl | exact flat_get0 (by assumption) | exact flat_get1 (by assumption) | exact flat_get2 (by assumption) | exact flat_get3 (by assumption) | exact flat_get4 (by assumption))) | (apply Still.loadAgg; rfl; rfl; (exact eqAuto); (exact Rd.any); (first | exact flat_take (by assumption) | rfl); rfl)); (first | exact hS | exact hS.tail | exact hS.sublist (by repeat (first | exact List.Sublist.refl _ | refine .cons_cons _ ?_ | refine .cons _ ?_))); rfl) | (first | (apply RH.takeNo (i := 24) (listed := (bm 30 16777215)) (listed' := (bm 30 33554431)); rfl; rfl; rfl; rfl; kernel_rfl; kernel_rfl; (first | exact hS | exact hS.tail | exact hS.sublist (by repeat (first | exact List.Sublist.refl _ | refine .cons_cons _ ?_ | refine .cons _ ?_))); rfl) | (apply RH.takeUndef (i := 24) (listed := (bm 30 16777215)) (listed' := (bm 30 33554431)); rfl; rfl; rfl; kernel_rfl; kernel_rfl; (first | exact hS | exact hS.tail | exact hS.sublist (by repeat (first | exact List.Sublist.refl _ | refine .cons_cons _ ?_ | refine .cons _ ?_))); rfl)))
            all_goals
              apply RH.all1 (i := 25) (listed := (bm 30 33554431))
              · kernel_rfl
              · first | (apply RI.no (i := 25) (listed := (bm 30 33554431)) (listed' := (bm 30 67108863)); rfl; rfl; rfl; rfl; kernel_rfl; rfl; (first | exact hS | exact hS.tail | exact hS.sublist (by repeat (first | exact List.Sublist.refl _ | refine .cons_cons _ ?_ | refine .cons _ ?_)))) | (apply RI.noUndef (i := 25) (listed := (bm 30 33554431)) (listed' := (bm 30 67108863)); rfl; rfl; rfl; kernel_rfl; rfl; (first | exact hS | exact hS.tail | exact hS.sublist (by repeat (first | exact List.Sublist.refl _ | refine .cons_cons _ ?_ | refine .cons _ ?_)))) | (apply RI.yes (i := 25) (listed := (bm 30 33554431)) (listed' := (bm 30 67108863)); rfl; rfl; rfl; kernel_rfl)
                all_goals try first
                | (apply OP.callF; rfl; rfl; rfl; show Cl _ 21 _ _ _; exact refHas_is hk hS; clear hS; rintro v w1 ⟨rfl, hS⟩; refine ⟨(by first | exact hS | exact hS.tail | exact hS.sublist (by repeat (first | exact List.Sublist.refl _ | refine .cons_cons _ ?_ | refine .cons _ ?_))), ?_⟩)
                | (apply OP.callF; rfl; rfl; rfl; show Cl _ 27 _ _ _; exact refHonest hl hle hS; clear hS; intro v2 w1 hS; obtain ⟨ph, ch, rfl⟩ := vec_slice hS; refine ⟨(by first | exact hS | exact hS.tail | exact hS.sublist (by repeat (first | exact List.Sublist.refl _ | refine .cons_cons _ ?_ | refine .cons _ ?_))), ?_⟩)
                | (refine OP.still (by exact Still.any) hS rfl ⟨(by first | exact hS | exact hS.tail | exact hS.sublist (by repeat (first | exact List.Sublist.refl _ | refine .cons_cons _ ?_ | refine .cons _ ?_))), ?_⟩)
                all_goals (first | (apply RH.takeYes (i := 26) (listed := (bm 30 67108863)) (listed' := (bm 30 134217727)); rfl; rfl; rfl; kernel_rfl; kernel_rfl; (first | (apply Still.load; rfl; rfl; exact Rd.ro hmem; exact g0) | (apply Still.load; rfl; rfl; exact Rd.ro hmem; exact g1) | (apply Still.load; rfl; rfl; exact Rd.ro hmem; exact g3) | (apply Still.load; rfl; rfl; (exact Rd.any); exact fcan) | (exact Still.any)); (first | exact hS | exact hS.tail | exact hS.sublist (by repeat (first | exact List.Sublist.refl _ | refine .cons_cons _ ?_ | refine .cons _ ?_))); rfl) | (first | (apply RH.takeNo (i := 26) (listed := (bm 30 67108863)) (listed' := (bm 30 134217727)); rfl; rfl; rfl; rfl; kernel_rfl; kernel_rfl; (first | exact hS | exact hS.tail | exact hS.sublist (by repeat (first | exact List.Sublist.refl _ | refine .cons_cons _ ?_ | refine .cons _ ?_))); rfl) | (apply RH.takeUndef (i := 26) (listed := (bm 30 67108863)) (listed' := (bm 30 134217727)); rfl; rfl; rfl; kernel_rfl; kernel_rfl; (first | exact hS | exact hS.tail | exact hS.sublist (by repeat (first | exact List.Sublist.refl _ | refine .cons_cons _ ?_ | refine .cons _ ?_))); rfl)))
                all_goals (first | (apply RH.takeYes (i := 27) (listed := (bm 30 134217727)) (listed' := (bm 30 268435455)); rfl; rfl; rfl; kernel_rfl; kernel_rfl; (first | (apply Still.load; rfl; rfl; exact Rd.ro hmem; exact g0) | (apply Still.load; rfl; rfl; exact Rd.ro hmem; exact g1) | (apply Still.load; rfl; rfl; exact Rd.ro hmem; exact g3) | (apply Still.load; rfl; rfl; (exact Rd.any); exact fcan) | (apply Still.eql; rfl; rfl) | (apply Still.eqlB; rfl; rfl; rfl) | (apply Still.eqlS; rfl; rfl) | (apply Still.sliceNil; rfl; rfl; rfl; rfl) | (apply Still.mapNil; rfl; rfl; rfl; rfl) | (apply Still.ptrNil; rfl; rfl; rfl; rfl)); (first | exact hS | exact hS.tail | exact hS.sublist (by repeat (first | exact List.Sublist.refl _ | refine .cons_cons _ ?_ | refine .cons _ ?_))); rfl) | (first | (apply RH.takeNo (i := 27) (listed := (bm 30 134217727)) (listed' := (bm 30 268435455)); rfl; rfl; rfl; rfl; kernel_rfl; kernel_rfl; (first | exact hS | exact hS.tail | exact hS.sublist (by repeat (first | exact List.Sublist.refl _ | refine .cons_cons _ ?_ | refine .cons _ ?_))); rfl) | (apply RH.takeUndef (i := 27) (listed := (bm 30 134217727)) (listed' := (bm 30 268435455)); rfl; rfl; rfl; kernel_rfl; kernel_rfl; (first | exact hS | exact hS.tail | exact hS.sublist (by repeat (first | exact List.Sublist.refl _ | refine .cons_cons _ ?_ | refine .cons _ ?_))); rfl)))
                all_goals (try (refine RH.split ?_ ?_ <;> intro hc <;> try (first | (exfalso; omega) | exact absurd rfl hc | exact Bool.noConfusion hc)))
                all_goals (apply RH.take (i := 28) (listed := (bm 30 268435455)) (listed' := (bm 30 536870911)); rfl; kernel_rfl; kernel_rfl; (first | (apply Still.pickT; rfl; rfl) | (apply Still.pickF; rfl; rfl)); (first | exact hS | exact hS.tail | exact hS.sublist (by repeat (first | exact List.Sublist.refl _ | refine .cons_cons _ ?_ | refine .cons _ ?_))); rfl)
                all_goals (apply RH.take (i := 29) (listed := (bm 30 536870911)) (listed' := (bm 30 1073741823)); rfl; kernel_rfl; kernel_rfl; (apply Still.assign; rfl); (first | exact hS | exact hS.tail | exact hS.sublist (by repeat (first | exact List.Sublist.refl _ | refine .cons_cons _ ?_ | refine .cons _ ?_))); rfl)
                all_goals (apply RH.done (listed := (bm 30 1073741823)); kernel_rfl)
                all_goals ((try (first | rw [decide_eq_true hc] | rw [decide_eq_false hc])); exact ⟨(), (by focus ((repeat (first | exact .nil | refine .cons rfl ?_)); done)), hS.picks (by focus ((repeat (first | apply Picks.all | apply Picks.nil | (refine Picks.cons (by repeat (first | apply Take.head | apply Take.tail)) ?_) | apply Picks.drop)); done))⟩)
    · clear hS
      rintro ⟨⟩ w1 hS
      repeat' first
        | refine Run.seq ?_
        | refine Run.region ?_
        | (refine RO.split ?_ ?_ <;> intro hc <;> try (first | (exfalso; omega) | exact absurd rfl hc | exact Bool.noConfusion hc))
        | refine RO.nil ?_
        | refine RO.still (by exact Still.any) hS rfl ?_
        | (apply RO.op; apply OP.box hS; rfl; rfl; rfl; clear hS; intro b w1 hS)
        | (apply RO.op; apply OP.alloc hS; rfl; rfl; rfl; clear hS; intro b w1 hS)
        | (apply RO.op; apply OP.store hS; rfl; rfl; rfl; rfl; rfl; (focus ((repeat (first | apply Has.head | apply Take.head | apply Put.head | apply Has.tail | apply Take.tail | apply Put.tail)); done)); rfl; rfl; clear hS; intro w1 hS)
        | (apply RO.op; apply OP.buildSlice hS; rfl; rfl; (exact eqAuto); rfl; rfl; rfl; rfl; rfl; clear hS; intro b w1 hS)
        | (apply RO.op; apply OP.makeMap hS; rfl; clear hS; intro b w1 hS)
        | refine RO.yes rfl rfl ?_
        | refine RO.no rfl rfl rfl rfl ?_
        | refine RO.noUndef rfl rfl rfl ?_
        | refine RO.noNone rfl rfl rfl ?_
        | refine Run.cond_true rfl ?_
        | refine Run.cond_false rfl ?_
        | refine Run.skip ?_
        | refine Run.block ?_
        | refine Run.inBlock ?_
        | refine Run.exit rfl ?_
      refine Run.ret Try.func24 rfl (.tmp rfl .nil) ?_
      exact ⟨rfl, hS.picks (by focus ((repeat (first | apply Picks.all | apply Picks.nil | (refine Picks.cons (by repeat (first | apply Take.head | apply Take.tail)) ?_) | apply Picks.drop)); done))⟩

set_option maxHeartbeats 8000000 in
theorem refLeaked_in {m : Nat} {x : Ev} {bc cc : Nat} {spc : List Value} (g : Good lim L) (hl : Sl ρ evL 4 v l) (hle : l.length ≤ 30) (hm : m < l.length) (hx : l[m] = x) (hS : St we ρ (Row bc (boolsL L (can L K) ++ spc) 4 :: F) w) :
    Cl Try.prog 26 [raV lim' r L.length cap, .slice (some ⟨bc, 0, none⟩) L.length cc, v, .int .i64 m] w fun v w' => v = .bool (leakedV x (can L K x.key) (can L K x.payload)) ∧ St we ρ (Row bc (boolsL L (can L K) ++ spc) 4 :: F) w' := by
  obtain ⟨p1, c1, rfl, k1, k2, hrow⟩ := hl.val
  have hlim := g.lim
  have hlen := g.len
  obtain ⟨b, off, cs, el, fr, rfl, hmem, hnd⟩ := hrow (by omega)
  have hni := hnd m hm
  rw [hx] at hni
  have g0 : cs[off + m * 4]? = some (.bool x.sent) := cell_at (j := 0) hni rfl
  have g2 : cs[off + m * 4 + 2]? = some (.int .i64 x.payload) := cell_at hni rfl
  have g3 : cs[off + m * 4 + 3]? = some (.int .i64 x.key) := cell_at hni rfl
  have key : ∀ y, has L y = true → (boolsL L (can L K) ++ spc)[y.toNat]? = some (.bool (can L K y)) ∧ 0 ≤ y ∧ y < L.length := fun y h => ⟨boolsL_get h, (has_iff.1 h).1, (has_iff.1 h).2⟩
  unfold leakedV closedV
  obtain ⟨sx, hsx⟩ : ∃ b, x.sent = b := ⟨_, rfl⟩
  rw [hsx] at g0 ⊢
  cases sx with
  | false =>
    rw [if_neg (by simp), Bool.false_and]
    refine Run.calls4 (n := 71) Try.func26 rfl rfl rfl ?_
    repeat' first
      | (refine Run.regionQ_of hS (by rfl) (by kernel_rfl) ?_; clear hS)
      | (refine RQ.still (by apply Still.load; rfl; rfl; exact Rd.ro hmem; exact g0) rfl ?_)
      | (refine RQ.still (by apply Still.load; rfl; rfl; exact Rd.ro hmem; exact g2) rfl ?_)
      | (refine RQ.still (by apply Still.load; rfl; rfl; exact Rd.ro hmem; exact g3) rfl ?_)
      | (refine RQ.still (by apply Still.load; rfl; rfl; (exact Rd.any); exact fp) rfl ?_)
      | (refine RQ.still (by apply Still.load; rfl; rfl; (exact Rd.any); exact fk) rfl ?_)
      | (apply RQ.callF; rfl; rfl; rfl; (show ∀ w, _ → Cl _ 21 [_, .int .i64 x.payload] _ _; exact fun w hS => refHas_is hp hS))
      | (apply RQ.callF; rfl; rfl; rfl; (show ∀ w, _ → Cl _ 21 [_, .int .i64 x.key] _ _; exact fun w hS => refHas_is hk hS))
      | (refine RQ.split ?_ ?_ <;> intro hc <;> try (first | (exfalso; omega) | exact absurd rfl hc | exact Bool.noConfusion hc))
      | (refine RQ.nil ?_; (try clear hS); intro w1 hS)
      | refine RQ.still (by exact Still.any) rfl ?_
      | refine RQ.yes rfl rfl ?_
      | refine RQ.no rfl rfl rfl rfl ?_
      | refine RQ.noUndef rfl rfl rfl ?_
      | refine Run.seq ?_
      | refine Run.region ?_
      | (refine RO.split ?_ ?_ <;> intro hc <;> try (first | (exfalso; omega) | exact absurd rfl hc | exact Bool.noConfusion hc))
      | refine RO.nil ?_
      | refine RO.still (by exact Still.any) hS rfl ?_
      | (apply RO.op; apply OP.box hS; rfl; rfl; rfl; clear hS; intro b w1 hS)
      | (apply RO.op; apply OP.alloc hS; rfl; rfl; rfl; clear hS; intro b w1 hS)
      | (apply RO.op; apply OP.store hS; rfl; rfl; rfl; rfl; rfl; (focus ((repeat (first | apply Has.head | apply Take.head | apply Put.head | apply Has.tail | apply Take.tail | apply Put.tail)); done)); rfl; rfl; clear hS; intro w1 hS)
      | (apply RO.op; apply OP.buildSlice hS; rfl; rfl; (exact eqAuto); rfl; rfl; rfl; rfl; rfl; clear hS; intro b w1 hS)
      | (apply RO.op; apply OP.makeMap hS; rfl; clear hS; intro b w1 hS)
      | refine RO.yes rfl rfl ?_
      | refine RO.no rfl rfl rfl rfl ?_
      | refine RO.noUndef rfl rfl rfl ?_
      | refine RO.noNone rfl rfl rfl ?_
      | refine Run.cond_true rfl ?_
      | refine Run.cond_false rfl ?_
      | refine Run.skip ?_
      | refine Run.block ?_
      | refine Run.inBlock ?_
      | refine Run.exit rfl ?_
    refine Run.ret Try.func26 rfl (.tmp rfl .nil) ?_
    exact ⟨rfl, hS.picks (by focus ((repeat (first | apply Picks.all | apply Picks.nil | (refine Picks.cons (by repeat (first | apply Take.head | apply Take.tail)) ?_) | apply Picks.drop)); done))⟩
  | true =>
    rw [if_pos rfl]
    by_cases hkey : 0 < x.key
    rotate_left
    · rw [if_neg hkey, Bool.false_and]
      refine Run.calls4 (n := 71) Try.func26 rfl rfl rfl ?_
      repeat' first
        | (refine Run.regionQ_of hS (by rfl) (by kernel_rfl) ?_; clear hS)
        | (refine RQ.still (by apply Still.load; rfl; rfl; exact Rd.ro hmem; exact g0) rfl ?_)
        | (refine RQ.still (by apply Still.load; rfl; rfl; exact Rd.ro hmem; exact g2) rfl ?_)
        | (refine RQ.still (by apply Still.load; rfl; rfl; exact Rd.ro hmem; exact g3) rfl ?_)
        | (refine RQ.still (by apply Still.load; rfl; rfl; (exact Rd.any); exact fp) rfl ?_)
        | (refine RQ.still (by apply Still.load; rfl; rfl; (exact Rd.any); exact fk) rfl ?_)
        | (apply RQ.callF; rfl; rfl; rfl; (show ∀ w, _ → Cl _ 21 [_, .int .i64 x.payload] _ _; exact fun w hS => refHas_is hp hS))
        | (apply RQ.callF; rfl; rfl; rfl; (show ∀ w, _ → Cl _ 21 [_, .int .i64 x.key] _ _; exact fun w hS => refHas_is hk hS))
        | (refine RQ.split ?_ ?_ <;> intro hc <;> try (first | (exfalso; omega) | exact absurd rfl hc | exact Bool.noConfusion hc))
        | (refine RQ.nil ?_; (try clear hS); intro w1 hS)
        | refine RQ.still (by exact Still.any) rfl ?_
        | refine RQ.yes rfl rfl ?_
        | refine RQ.no rfl rfl rfl rfl ?_
        | refine RQ.noUndef rfl rfl rfl ?_
        | refine Run.seq ?_
        | refine Run.region ?_
        | (refine RO.split ?_ ?_ <;> intro hc <;> try (first | (exfalso; omega) | exact absurd rfl hc | exact Bool.noConfusion hc))
        | refine RO.nil ?_
        | refine RO.still (by exact Still.any) hS rfl ?_
        | (apply RO.op; apply OP.box hS; rfl; rfl; rfl; clear hS; intro b w1 hS)
        | (apply RO.op; apply OP.alloc hS; rfl; rfl; rfl; clear hS; intro b w1 hS)
        | (apply RO.op; apply OP.store hS; rfl; rfl; rfl; rfl; rfl; (focus ((repeat (first | apply Has.head | apply Take.head | apply Put.head | apply Has.tail | apply Take.tail | apply Put.tail)); done)); rfl; rfl; clear hS; intro w1 hS)
        | (apply RO.op; apply OP.buildSlice hS; rfl; rfl; (exact eqAuto); rfl; rfl; rfl; rfl; rfl; clear hS; intro b w1 hS)
        | (apply RO.op; apply OP.makeMap hS; rfl; clear hS; intro b w1 hS)
        | refine RO.yes rfl rfl ?_
        | refine RO.no rfl rfl rfl rfl ?_
        | refine RO.noUndef rfl rfl rfl ?_
        | refine RO.noNone rfl rfl rfl ?_
        | refine Run.cond_true rfl ?_
        | refine Run.cond_false rfl ?_
        | refine Run.skip ?_
        | refine Run.block ?_
        | refine Run.inBlock ?_
        | refine Run.exit rfl ?_
      refine Run.ret Try.func26 rfl (.tmp rfl .nil) ?_
      exact ⟨rfl, hS.picks (by focus ((repeat (first | apply Picks.all | apply Picks.nil | (refine Picks.cons (by repeat (first | apply Take.head | apply Take.tail)) ?_) | apply Picks.drop)); done))⟩
    rw [if_pos hkey]
    cases hp : has L x.payload with
    | false =>
      rw [can_out hp, Bool.and_false]
      refine Run.calls4 (n := 71) Try.func26 rfl rfl rfl ?_
      repeat' first
        | (refine Run.regionQ_of hS (by rfl) (by kernel_rfl) ?_; clear hS)
        | (refine RQ.still (by apply Still.load; rfl; rfl; exact Rd.ro hmem; exact g0) rfl ?_)
        | (refine RQ.still (by apply Still.load; rfl; rfl; exact Rd.ro hmem; exact g2) rfl ?_)
        | (refine RQ.still (by apply Still.load; rfl; rfl; exact Rd.ro hmem; exact g3) rfl ?_)
        | (refine RQ.still (by apply Still.load; rfl; rfl; (exact Rd.any); exact fp) rfl ?_)
        | (refine RQ.still (by apply Still.load; rfl; rfl; (exact Rd.any); exact fk) rfl ?_)
        | (apply RQ.callF; rfl; rfl; rfl; (show ∀ w, _ → Cl _ 21 [_, .int .i64 x.payload] _ _; exact fun w hS => refHas_is hp hS))
        | (apply RQ.callF; rfl; rfl; rfl; (show ∀ w, _ → Cl _ 21 [_, .int .i64 x.key] _ _; exact fun w hS => refHas_is hk hS))
        | (refine RQ.split ?_ ?_ <;> intro hc <;> try (first | (exfalso; omega) | exact absurd rfl hc | exact Bool.noConfusion hc))
        | (refine RQ.nil ?_; (try clear hS); intro w1 hS)
        | refine RQ.still (by exact Still.any) rfl ?_
        | refine RQ.yes rfl rfl ?_
        | refine RQ.no rfl rfl rfl rfl ?_
        | refine RQ.noUndef rfl rfl rfl ?_
        | refine Run.seq ?_
        | refine Run.region ?_
        | (refine RO.split ?_ ?_ <;> intro hc <;> try (first | (exfalso; omega) | exact absurd rfl hc | exact Bool.noConfusion hc))
        | refine RO.nil ?_
        | refine RO.still (by exact Still.any) hS rfl ?_
        | (apply RO.op; apply OP.box hS; rfl; rfl; rfl; clear hS; intro b w1 hS)
        | (apply RO.op; apply OP.alloc hS; rfl; rfl; rfl; clear hS; intro b w1 hS)
        | (apply RO.op; apply OP.store hS; rfl; rfl; rfl; rfl; rfl; (focus ((repeat (first | apply Has.head | apply Take.head | apply Put.head | apply Has.tail | apply Take.tail | apply Put.tail)); done)); rfl; rfl; clear hS; intro w1 hS)
        | (apply RO.op; apply OP.buildSlice hS; rfl; rfl; (exact eqAuto); rfl; rfl; rfl; rfl; rfl; clear hS; intro b w1 hS)
        | (apply RO.op; apply OP.makeMap hS; rfl; clear hS; intro b w1 hS)
        | refine RO.yes rfl rfl ?_
        | refine RO.no rfl rfl rfl rfl ?_
        | refine RO.noUndef rfl rfl rfl ?_
        | refine RO.noNone rfl rfl rfl ?_
        | refine Run.cond_true rfl ?_
        | refine Run.cond_false rfl ?_
        | refine Run.skip ?_
        | refine Run.block ?_
        | refine Run.inBlock ?_
        | refine Run.exit rfl ?_
      refine Run.ret Try.func26 rfl (.tmp rfl .nil) ?_
      exact ⟨rfl, hS.picks (by focus ((repeat (first | apply Picks.all | apply Picks.nil | (refine Picks.cons (by repeat (first | apply Take.head | apply Take.tail)) ?_) | apply Picks.drop)); done))⟩
    | true =>
      obtain ⟨fp, p1, p2⟩ := key _ hp
      cases hk : has L x.key with
      | false =>
        rw [can_out hk, Bool.not_false, Bool.true_and]
        cases hcp : can L K x.payload
        all_goals
          rw [hcp] at fp
          refine Run.calls4 (n := 71) Try.func26 rfl rfl rfl ?_
          repeat' first
            | (refine Run.regionQ_of hS (by rfl) (by kernel_rfl) ?_; clear hS)
            | (refine RQ.still (by apply Still.load; rfl; rfl; exact Rd.ro hmem; exact g0) rfl ?_)
            | (refine RQ.still (by apply Still.load; rfl; rfl; exact Rd.ro hmem; exact g2) rfl ?_)
            | (refine RQ.still (by apply Still.load; rfl; rfl; exact Rd.ro hmem; exact g3) rfl ?_)
            | (refine RQ.still (by apply Still.load; rfl; rfl; (exact Rd.any); exact fp) rfl ?_)
            | (refine RQ.still (by apply Still.load; rfl; rfl; (exact Rd.any); exact fk) rfl ?_)
            | (apply RQ.callF; rfl; rfl; rfl; (show ∀ w, _ → Cl _ 21 [_, .int .i64 x.payload] _ _; exact fun w hS => refHas_is hp hS))
            | (apply RQ.callF; rfl; rfl; rfl; (show ∀ w, _ → Cl _ 21 [_, .int .i64 x.key] _ _; exact fun w hS => refHas_is hk hS))
            | (refine RQ.split ?_ ?_ <;> intro hc <;> try (first | (exfalso; omega) | exact absurd rfl hc | exact Bool.noConfusion hc))
            | (refine RQ.nil ?_; (try clear hS); intro w1 hS)
            | refine RQ.still (by exact Still.any) rfl ?_
            | refine RQ.yes rfl rfl ?_
            | refine RQ.no rfl rfl rfl rfl ?_
            | refine RQ.noUndef rfl rfl rfl ?_
            | refine Run.seq ?_
            | refine Run.region ?_
            | (refine RO.split ?_ ?_ <;> intro hc <;> try (first | (exfalso; omega) | exact absurd rfl hc | exact Bool.noConfusion hc))
            | refine RO.nil ?_
            | refine RO.still (by exact Still.any) hS rfl ?_
            | (apply RO.op; apply OP.box hS; rfl; rfl; rfl; clear hS; intro b w1 hS)
            | (apply RO.op; apply OP.alloc hS; rfl; rfl; rfl; clear hS; intro b w1 hS)
            | (apply RO.op; apply OP.store hS; rfl; rfl; rfl; rfl; rfl; (focus ((repeat (first | apply Has.head | apply Take.head | apply Put.head | apply Has.tail | apply Take.tail | apply Put.tail)); done)); rfl; rfl; clear hS; intro w1 hS)
            | (apply RO.op; apply OP.buildSlice hS; rfl; rfl; (exact eqAuto); rfl; rfl; rfl; rfl; rfl; clear hS; intro b w1 hS)
            | (apply RO.op; apply OP.makeMap hS; rfl; clear hS; intro b w1 hS)
            | refine RO.yes rfl rfl ?_
            | refine RO.no rfl rfl rfl rfl ?_
            | refine RO.noUndef rfl rfl rfl ?_
            | refine RO.noNone rfl rfl rfl ?_
            | refine Run.cond_true rfl ?_
            | refine Run.cond_false rfl ?_
            | refine Run.skip ?_
            | refine Run.block ?_
            | refine Run.inBlock ?_
            | refine Run.exit rfl ?_
          refine Run.ret Try.func26 rfl (.tmp rfl .nil) ?_
          exact ⟨rfl, hS.picks (by focus ((repeat (first | apply Picks.all | apply Picks.nil | (refine Picks.cons (by repeat (first | apply Take.head | apply Take.tail)) ?_) | apply Picks.drop)); done))⟩
      | true =>
        obtain ⟨fk, q1, q2⟩ := key _ hk
        cases hck : can L K x.key <;> cases hcp : can L K x.payload
        all_goals
          rw [hck] at fk
          rw [hcp] at fp
          refine Run.calls4 (n := 71) Try.func26 rfl rfl rfl ?_
          repeat' first
            | (refine Run.regionQ_of hS (by rfl) (by kernel_rfl) ?_; clear hS)
            | (refine RQ.still (by apply Still.load; rfl; rfl; exact Rd.ro hmem; exact g0) rfl ?_)
            | (refine RQ.still (by apply Still.load; rfl; rfl; exact Rd.ro hmem; exact g2) rfl ?_)
            | (refine RQ.still (by apply Still.load; rfl; rfl; exact Rd.ro hmem; exact g3) rfl ?_)
            | (refine RQ.still (by apply Still.load; rfl; rfl; (exact Rd.any); exact fp) rfl ?_)
            | (refine RQ.still (by apply Still.load; rfl; rfl; (exact Rd.any); exact fk) rfl ?_)
            | (apply RQ.callF; rfl; rfl; rfl; (show ∀ w, _ → Cl _ 21 [_, .int .i64 x.payload] _ _; exact fun w hS => refHas_is hp hS))
            | (apply RQ.callF; rfl; rfl; rfl; (show ∀ w, _ → Cl _ 21 [_, .int .i64 x.key] _ _; exact fun w hS => refHas_is hk hS))
            | (refine RQ.split ?_ ?_ <;> intro hc <;> try (first | (exfalso; omega) | exact absurd rfl hc | exact Bool.noConfusion hc))
            | (refine RQ.nil ?_; (try clear hS); intro w1 hS)
            | refine RQ.still (by exact Still.any) rfl ?_
            | refine RQ.yes rfl rfl ?_
            | refine RQ.no rfl rfl rfl rfl ?_
            | refine RQ.noUndef rfl rfl rfl ?_
            | refine Run.seq ?_
            | refine Run.region ?_
            | (refine RO.split ?_ ?_ <;> intro hc <;> try (first | (exfalso; omega) | exact absurd rfl hc | exact Bool.noConfusion hc))
            | refine RO.nil ?_
            | refine RO.still (by exact Still.any) hS rfl ?_
            | (apply RO.op; apply OP.box hS; rfl; rfl; rfl; clear hS; intro b w1 hS)
            | (apply RO.op; apply OP.alloc hS; rfl; rfl; rfl; clear hS; intro b w1 hS)
            | (apply RO.op; apply OP.store hS; rfl; rfl; rfl; rfl; rfl; (focus ((repeat (first | apply Has.head | apply Take.head | apply Put.head | apply Has.tail | apply Take.tail | apply Put.tail)); done)); rfl; rfl; clear hS; intro w1 hS)
            | (apply RO.op; apply OP.buildSlice hS; rfl; rfl; (exact eqAuto); rfl; rfl; rfl; rfl; rfl; clear hS; intro b w1 hS)
            | (apply RO.op; apply OP.makeMap hS; rfl; clear hS; intro b w1 hS)
            | refine RO.yes rfl rfl ?_
            | refine RO.no rfl rfl rfl rfl ?_
            | refine RO.noUndef rfl rfl rfl ?_
            | refine RO.noNone rfl rfl rfl ?_
            | refine Run.cond_true rfl ?_
            | refine Run.cond_false rfl ?_
            | refine Run.skip ?_
            | refine Run.block ?_
            | refine Run.inBlock ?_
            | refine Run.exit rfl ?_
          refine Run.ret Try.func26 rfl (.tmp rfl .nil) ?_
          exact ⟨rfl, hS.picks (by focus ((repeat (first | apply Picks.all | apply Picks.nil | (refine Picks.cons (by repeat (first | apply Take.head | apply Take.tail)) ?_) | apply Picks.drop)); done))⟩
end
end Go.Proofs.Ytcigkkedffggiaa
