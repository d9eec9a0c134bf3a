/-
  The layer of recipes in the program: the terms that steps made.
-/
import Derived.Test.YthejfodjielahaaRecipe1
namespace Go.Proofs.Ythejfodjielahaa
set_option maxRecDepth 8000
set_option linter.unusedSimpArgs false
set_option linter.unusedVariables false
open Go Go.RowKit

section
variable {we w : World} {ρ : List (Nat × Obj)} {σ F : List HP} {kb p lim cb : Nat} {L : List Nd} {K : Int → Bool} {u v : Value} {heard made : List Int}

set_option maxHeartbeats 4000000 in
theorem used_from {xs : List Int} {q cq capm : Nat} {pm : Option Addr} {cs : List Value} {G : List HP} (hml : made.length ≤ 200000) (hxl : xs.length ≤ 3) (hq : Rd ρ G q (.cells cs.toArray 3 (0, 0))) (hcs : ∀ (i : Nat) (h : i < xs.length), cs[i]? = some (.int .i64 xs[i]))
    (hrd : ∀ x, ahd made x = true → ∃ g cells, pm = some ⟨g, 0, none⟩ ∧ Rd ρ G g (.cells (List.toArray cells) 3 (0, 0)) ∧ cells[x.toNat]? = some (.int .i64 (mde made x)))
    (hS : St we ρ (Row cb [.pointer (some ⟨p, 0, none⟩), .pointer (some ⟨kb, 0, none⟩), .slice pm made.length capm] 65 :: G) w) :
    Cl Try.prog 35 [.pointer (some ⟨cb, 0, none⟩), .slice (some ⟨q, 0, none⟩) xs.length cq] w
      fun v w' => (xs.all (ahd made) = true ∧ ∃ ov, v = .tuple #[ov, .bool true] ∧ St we ρ (Vec 3 1 ov (xs.map (mde made)).length ((xs.map (mde made)).flatMap intL) :: Row cb [.pointer (some ⟨p, 0, none⟩), .pointer (some ⟨kb, 0, none⟩), .slice pm made.length capm] 65 :: G) w') ∨
        (xs.all (ahd made) = false ∧ v = .tuple #[.slice none 0 0, .bool false] ∧ St we ρ (Row cb [.pointer (some ⟨p, 0, none⟩), .pointer (some ⟨kb, 0, none⟩), .slice pm made.length capm] 65 :: G) w') := by
  refine Run.calls2 (n := 38) Try.func35 rfl rfl rfl ?_
  repeat' first
    | refine Run.seq ?_
    | refine Run.region ?_
    | (refine RO.split ?_ ?_ <;> intro hc <;> try (first | (exfalso; omega) | exact absurd rfl hc | exact Bool.noConfusion hc))
    | refine RO.nil ?_
    | refine RO.still (by exact Still.any) hS rfl ?_
    | (apply RO.op; apply OP.box hS; rfl; rfl; rfl; clear hS; intro b w1 hS)
    | (apply RO.op; apply OP.alloc hS; rfl; rfl; rfl; clear hS; intro b w1 hS)
    | (apply RO.op; apply OP.store hS; rfl; rfl; rfl; rfl; rfl; (focus ((repeat (first | apply Has.head | apply Take.head | apply Put.head | apply Has.tail | apply Take.tail | apply Put.tail)); done)); rfl; rfl; clear hS; intro w1 hS)
    | (apply RO.op; apply OP.buildSlice hS; rfl; rfl; (exact eqAuto); rfl; rfl; rfl; rfl; rfl; clear hS; intro b w1 hS)
    | (apply RO.op; apply OP.makeMap hS; rfl; clear hS; intro b w1 hS)
    | refine RO.yes rfl rfl ?_
    | refine RO.no rfl rfl rfl rfl ?_
    | refine RO.noUndef rfl rfl rfl ?_
    | refine RO.noNone rfl rfl rfl ?_
    | refine Run.cond_true rfl ?_
    | refine Run.cond_false rfl ?_
    | refine Run.skip ?_
    | refine Run.block ?_
    | refine Run.inBlock ?_
    | refine Run.exit rfl ?_
  refine Run.while (fun z : Nat × Value => [(0, .pointer (some ⟨cb, 0, none⟩)), (6, z.2), (9, .slice (some ⟨q, 0, none⟩) xs.length cq), (10, .int .i64 xs.length), (11, .int .i64 z.1)])
    (fun z w => z.1 ≤ xs.length ∧ (xs.take z.1).all (ahd made) = true ∧ St we ρ (Vec 3 1 z.2 ((xs.take z.1).map (mde made)).length (((xs.take z.1).map (mde made)).flatMap intL) :: Row cb [.pointer (some ⟨p, 0, none⟩), .pointer (some ⟨kb, 0, none⟩), .slice pm made.length capm] 65 :: G) w) (fun z => xs.length - z.1) (0, .slice none 0 0)
    ⟨by simp, by simp, vec_nil hS⟩ (by focus ((repeat (first | exact .nil | refine .cons rfl ?_)); done)) ?_
  clear hS
  rintro ⟨i, ov⟩ w ⟨hi, hall, hS⟩ ih
  simp only at hi hall hS ih ⊢
  by_cases hlt : i < xs.length
  · have hci := hcs i hlt
    have e0 : xs.take (i + 1) = xs.take i ++ [xs[i]] := List.take_succ_eq_append_getElem hlt
    have hmem : xs[i] ∈ xs := List.getElem_mem hlt
    generalize xs[i] = x at hci e0 hmem
    cases hx : ahd made x with
    | false =>
      have hno : xs.all (ahd made) = false := by
        rw [List.all_eq_false]
        exact ⟨x, hmem, by rw [hx]; simp⟩
      have hx2 : x < 0 ∨ (0 ≤ x ∧ (made.length : Int) ≤ x) := by
        have : ¬ (0 ≤ x ∧ x < made.length) := fun h => by rw [ahd_iff.2 h] at hx; cases hx
        omega
      rcases hx2 with hx2 | hx2
      all_goals
        repeat' first
          | (refine RO.still (by apply Still.load; rfl; rfl; (exact Rd.any); exact hci) hS rfl ?_)
          | refine Run.seq ?_
          | refine Run.region ?_
          | (refine RO.split ?_ ?_ <;> intro hc <;> try (first | (exfalso; omega) | exact absurd rfl hc | exact Bool.noConfusion hc))
          | refine RO.nil ?_
          | refine RO.still (by exact Still.any) hS rfl ?_
          | (apply RO.op; apply OP.box hS; rfl; rfl; rfl; clear hS; intro b w1 hS)
          | (apply RO.op; apply OP.alloc hS; rfl; rfl; rfl; clear hS; intro b w1 hS)
          | (apply RO.op; apply OP.store hS; rfl; rfl; rfl; rfl; rfl; (focus ((repeat (first | apply Has.head | apply Take.head | apply Put.head | apply Has.tail | apply Take.tail | apply Put.tail)); done)); rfl; rfl; clear hS; intro w1 hS)
          | (apply RO.op; apply OP.buildSlice hS; rfl; rfl; (exact eqAuto); rfl; rfl; rfl; rfl; rfl; clear hS; intro b w1 hS)
          | (apply RO.op; apply OP.makeMap hS; rfl; clear hS; intro b w1 hS)
          | refine RO.yes rfl rfl ?_
          | refine RO.no rfl rfl rfl rfl ?_
          | refine RO.noUndef rfl rfl rfl ?_
          | refine RO.noNone rfl rfl rfl ?_
          | refine Run.cond_true rfl ?_
          | refine Run.cond_false rfl ?_
          | refine Run.skip ?_
          | refine Run.block ?_
          | refine Run.inBlock ?_
          | refine Run.exit rfl ?_
        refine Run.ret Try.func35 rfl (.tmp rfl (.tmp rfl .nil)) ?_
        exact .inr ⟨hno, rfl, hS.picks (by focus ((repeat (first | apply Picks.all | apply Picks.nil | (refine Picks.cons (by repeat (first | apply Take.head | apply Take.tail)) ?_) | apply Picks.drop)); done))⟩
    | true =>
      obtain ⟨g, cells, rfl, hrg, hval⟩ := hrd x hx
      have hx2 := ahd_iff.1 hx
      have hol : ((xs.take i).map (mde made)).length ≤ 3 := by rw [List.length_map, List.length_take]; omega
      have e1 : (xs.take (i + 1)).map (mde made) = (xs.take i).map (mde made) ++ [mde made x] := by rw [e0, List.map_append]; rfl
      have e2 : (xs.take (i + 1)).all (ahd made) = true := by rw [e0, List.all_append, hall]; simp [hx]
      generalize (xs.take i).map (mde made) = out at hS hol e1
      generalize mde made x = y at hval e1
      repeat' first
        | (refine RO.still (by apply Still.load; rfl; rfl; (exact Rd.any); exact hci) hS rfl ?_)
        | (refine RO.still (by apply Still.load; rfl; rfl; (exact Rd.any); exact hval) hS rfl ?_)
        | (apply RO.op; apply OP.append (size := 1) (bytes := 8) (k := 1) (news := [.int .i64 y]) hS; rfl; rfl; rfl; rfl; rfl; rfl; rfl; rfl; exact (by omega); (focus ((repeat (first | apply Has.head | apply Take.head | apply Put.head | apply Has.tail | apply Take.tail | apply Put.tail)); done)); (exact Rd.any); rfl; rfl; exact (by intro v hv; simp at hv; subst hv; rfl); (exact (by unfold maxLen; omega)); (exact (by omega)); rfl
           clear hS; intro v2 w1 hS)
        | refine Run.seq ?_
        | refine Run.region ?_
        | (refine RO.split ?_ ?_ <;> intro hc <;> try (first | (exfalso; omega) | exact absurd rfl hc | exact Bool.noConfusion hc))
        | refine RO.nil ?_
        | refine RO.still (by exact Still.any) hS rfl ?_
        | (apply RO.op; apply OP.box hS; rfl; rfl; rfl; clear hS; intro b w1 hS)
        | (apply RO.op; apply OP.alloc hS; rfl; rfl; rfl; clear hS; intro b w1 hS)
        | (apply RO.op; apply OP.store hS; rfl; rfl; rfl; rfl; rfl; (focus ((repeat (first | apply Has.head | apply Take.head | apply Put.head | apply Has.tail | apply Take.tail | apply Put.tail)); done)); rfl; rfl; clear hS; intro w1 hS)
        | (apply RO.op; apply OP.buildSlice hS; rfl; rfl; (exact eqAuto); rfl; rfl; rfl; rfl; rfl; clear hS; intro b w1 hS)
        | (apply RO.op; apply OP.makeMap hS; rfl; clear hS; intro b w1 hS)
        | refine RO.yes rfl rfl ?_
        | refine RO.no rfl rfl rfl rfl ?_
        | refine RO.noUndef rfl rfl rfl ?_
        | refine RO.noNone rfl rfl rfl ?_
        | refine Run.cond_true rfl ?_
        | refine Run.cond_false rfl ?_
        | refine Run.skip ?_
        | refine Run.block ?_
        | refine Run.inBlock ?_
        | refine Run.exit rfl ?_
      refine Run.weaken (by focus ((repeat (first | exact .nil | refine .cons rfl ?_)); done)) (ih (i + 1, v2) _ ⟨by simp; omega, e2, ?_⟩ (by simp; omega))
      simp only [e1]
      rw [List.length_append, List.flatMap_append]
      exact hS.picks (by focus ((repeat (first | apply Picks.all | apply Picks.nil | (refine Picks.cons (by repeat (first | apply Take.head | apply Take.tail)) ?_) | apply Picks.drop)); done))
  · obtain rfl : i = xs.length := by omega
    rw [List.take_of_length_le (Nat.le_refl _)] at hS hall
    repeat' first
      | refine Run.seq ?_
      | refine Run.region ?_
      | (refine RO.split ?_ ?_ <;> intro hc <;> try (first | (exfalso; omega) | exact absurd rfl hc | exact Bool.noConfusion hc))
      | refine RO.nil ?_
      | refine RO.still (by exact Still.any) hS rfl ?_
      | (apply RO.op; apply OP.box hS; rfl; rfl; rfl; clear hS; intro b w1 hS)
      | (apply RO.op; apply OP.alloc hS; rfl; rfl; rfl; clear hS; intro b w1 hS)
      | (apply RO.op; apply OP.store hS; rfl; rfl; rfl; rfl; rfl; (focus ((repeat (first | apply Has.head | apply Take.head | apply Put.head | apply Has.tail | apply Take.tail | apply Put.tail)); done)); rfl; rfl; clear hS; intro w1 hS)
      | (apply RO.op; apply OP.buildSlice hS; rfl; rfl; (exact eqAuto); rfl; rfl; rfl; rfl; rfl; clear hS; intro b w1 hS)
      | (apply RO.op; apply OP.makeMap hS; rfl; clear hS; intro b w1 hS)
      | refine RO.yes rfl rfl ?_
      | refine RO.no rfl rfl rfl rfl ?_
      | refine RO.noUndef rfl rfl rfl ?_
      | refine RO.noNone rfl rfl rfl ?_
      | refine Run.cond_true rfl ?_
      | refine Run.cond_false rfl ?_
      | refine Run.skip ?_
      | refine Run.block ?_
      | refine Run.inBlock ?_
      | refine Run.exit rfl ?_
    refine Run.ret Try.func35 rfl (.tmp rfl (.tmp rfl .nil)) ?_
    exact .inl ⟨hall, _, rfl, hS.picks (by focus ((repeat (first | apply Picks.all | apply Picks.nil | (refine Picks.cons (by repeat (first | apply Take.head | apply Take.tail)) ?_) | apply Picks.drop)); done))⟩

/-- The cook: an arena, what is known, what was made. -/
abbrev CookL (cb p kb : Nat) (mv : Value) (made : List Int) : List HP := [Row cb [.pointer (some ⟨p, 0, none⟩), .pointer (some ⟨kb, 0, none⟩), mv] 65, Vec 3 1 mv made.length (made.flatMap intL)]

theorem used_calls {xs : List Int} {q cq : Nat} {mv : Value} {cs : List Value} (hml : made.length ≤ 200000) (hxl : xs.length ≤ 3) (hq : Rd ρ F q (.cells cs.toArray 3 (0, 0))) (hcs : ∀ (i : Nat) (h : i < xs.length), cs[i]? = some (.int .i64 xs[i]))
    (hS : St we ρ (Row cb [.pointer (some ⟨p, 0, none⟩), .pointer (some ⟨kb, 0, none⟩), mv] 65 :: Vec 3 1 mv made.length (made.flatMap intL) :: F) w) :
    Cl Try.prog 35 [.pointer (some ⟨cb, 0, none⟩), .slice (some ⟨q, 0, none⟩) xs.length cq] w
      fun v w' => (xs.all (ahd made) = true ∧ ∃ ov, v = .tuple #[ov, .bool true] ∧ St we ρ (Vec 3 1 ov (xs.map (mde made)).length ((xs.map (mde made)).flatMap intL) :: Row cb [.pointer (some ⟨p, 0, none⟩), .pointer (some ⟨kb, 0, none⟩), mv] 65 :: Vec 3 1 mv made.length (made.flatMap intL) :: F) w') ∨
        (xs.all (ahd made) = false ∧ v = .tuple #[.slice none 0 0, .bool false] ∧ St we ρ (Row cb [.pointer (some ⟨p, 0, none⟩), .pointer (some ⟨kb, 0, none⟩), mv] 65 :: Vec 3 1 mv made.length (made.flatMap intL) :: F) w') := by
  obtain ⟨_, ⟨rfl, h0, hnil, hS2⟩ | ⟨g, capm, sp, rfl, c1, c2, c3, hS2⟩⟩ := vec_open (hS.take (.tail .head))
  · have hmade : made = [] := List.eq_nil_of_length_eq_zero h0
    subst hmade
    refine (used_from (pm := none) (capm := 0) (made := []) hml hxl hq hcs (fun x hx => by rw [ahd_iff] at hx; simp at hx; omega) hS2).mono ?_
    rintro v w1 (⟨h1, ov, rfl, h2⟩ | ⟨h1, rfl, h2⟩)
    · exact .inl ⟨h1, ov, rfl, ((vec_nil h2).take (.tail (.tail .head))).picks (by focus ((repeat (first | apply Picks.all | apply Picks.nil | (refine Picks.cons (by repeat (first | apply Take.head | apply Take.tail)) ?_) | apply Picks.drop)); done))⟩
    · exact .inr ⟨h1, rfl, ((vec_nil h2).take (.tail .head))⟩
  · have hcells : ∀ x, ahd made x = true → (made.flatMap intL ++ sp)[x.toNat]? = some (.int .i64 (mde made x)) := fun x hx => by
      obtain ⟨h2, e⟩ := mde_get hx
      rw [e, ints_flat, List.getElem?_append_left (by simpa using h2)]
      simp [h2]
    have hlen : (made.flatMap intL ++ sp).length = capm * 1 := by
      have := c3
      rw [List.length_append, ints_flat, List.length_map]
      omega
    have htake : (made.flatMap intL ++ sp).take (made.length * 1) = made.flatMap intL := by
      rw [Nat.mul_one, ints_flat]; exact List.take_left' (by simp)
    have shut : ∀ {w1 : World} {G : List HP}, St we ρ (Row g (made.flatMap intL ++ sp) 3 :: G) w1 → St we ρ (Vec 3 1 (.slice (some ⟨g, 0, none⟩) made.length capm) made.length (made.flatMap intL) :: G) w1 :=
      fun h => vec_shut (size := 1) (xs := made.flatMap intL) h c1 c2 hlen htake
    refine (used_from (pm := some ⟨g, 0, none⟩) (capm := capm) hml hxl (hq.tail) hcs (fun x hx => ⟨g, _, rfl, .own .head, hcells x hx⟩) (hS2.take (.tail .head))).mono ?_
    rintro v w1 (⟨h1, ov, rfl, h2⟩ | ⟨h1, rfl, h2⟩)
    · exact .inl ⟨h1, ov, rfl, (shut (h2.take (.tail (.tail .head)))).picks (by focus ((repeat (first | apply Picks.all | apply Picks.nil | (refine Picks.cons (by repeat (first | apply Take.head | apply Take.tail)) ?_) | apply Picks.drop)); done))⟩
    · exact .inr ⟨h1, rfl, (shut (h2.take (.tail .head))).take (.tail .head)⟩

theorem used_yes {xs : List Int} {q cq k : Nat} {mv : Value} {cs : List Value} (hk : xs.length = k) (hml : made.length ≤ 200000) (hxl : xs.length ≤ 3) (hall : xs.all (ahd made) = true) (hq : Rd ρ F q (.cells cs.toArray 3 (0, 0))) (hcs : ∀ (i : Nat) (h : i < xs.length), cs[i]? = some (.int .i64 xs[i]))
    (hS : St we ρ (Row cb [.pointer (some ⟨p, 0, none⟩), .pointer (some ⟨kb, 0, none⟩), mv] 65 :: Vec 3 1 mv made.length (made.flatMap intL) :: F) w) :
    Cl Try.prog 35 [.pointer (some ⟨cb, 0, none⟩), .slice (some ⟨q, 0, none⟩) k cq] w
      fun v w' => ∃ ov, v = .tuple #[ov, .bool true] ∧ St we ρ (Vec 3 1 ov (xs.map (mde made)).length ((xs.map (mde made)).flatMap intL) :: Row cb [.pointer (some ⟨p, 0, none⟩), .pointer (some ⟨kb, 0, none⟩), mv] 65 :: Vec 3 1 mv made.length (made.flatMap intL) :: F) w' := by
  subst hk
  refine (used_calls hml hxl hq hcs hS).mono ?_
  rintro v w1 (⟨_, h⟩ | ⟨h, _⟩)
  · exact h
  · rw [hall] at h; cases h
theorem used_no {xs : List Int} {q cq k : Nat} {mv : Value} {cs : List Value} (hk : xs.length = k) (hml : made.length ≤ 200000) (hxl : xs.length ≤ 3) (hall : xs.all (ahd made) = false) (hq : Rd ρ F q (.cells cs.toArray 3 (0, 0))) (hcs : ∀ (i : Nat) (h : i < xs.length), cs[i]? = some (.int .i64 xs[i]))
    (hS : St we ρ (Row cb [.pointer (some ⟨p, 0, none⟩), .pointer (some ⟨kb, 0, none⟩), mv] 65 :: Vec 3 1 mv made.length (made.flatMap intL) :: F) w) :
    Cl Try.prog 35 [.pointer (some ⟨cb, 0, none⟩), .slice (some ⟨q, 0, none⟩) k cq] w
      fun v w' => v = .tuple #[.slice none 0 0, .bool false] ∧ St we ρ (Row cb [.pointer (some ⟨p, 0, none⟩), .pointer (some ⟨kb, 0, none⟩), mv] 65 :: Vec 3 1 mv made.length (made.flatMap intL) :: F) w' := by
  subst hk
  refine (used_calls hml hxl hq hcs hS).mono ?_
  rintro v w1 (⟨h, _⟩ | ⟨_, h⟩)
  · rw [hall] at h; cases h
  · exact h
end
end Go.Proofs.Ythejfodjielahaa
