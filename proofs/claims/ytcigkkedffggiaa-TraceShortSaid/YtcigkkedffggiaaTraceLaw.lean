/-
  The laws' helpers for the layer of traces: two slices of one's own held against each other; events told twice; awake.
-/
import Derived.Test.YtcigkkedffggiaaTraceFns
namespace Go.Proofs.Ytcigkkedffggiaa
set_option maxRecDepth 8000
set_option linter.unusedSimpArgs false
set_option linter.unusedVariables false
open Go Go.RowKit

theorem tevL_one (x : Ev) : ∀ v ∈ tevL x, one v = true := by
  intro v hv
  simp only [tevL, List.mem_cons, List.not_mem_nil, or_false] at hv
  rcases hv with rfl | rfl | rfl | rfl | rfl | rfl | rfl | rfl | rfl | rfl | rfl | rfl | rfl <;> rfl
theorem evL_one (x : Ev) : ∀ v ∈ evL x, one v = true := by
  intro v hv
  simp only [evL, List.mem_cons, List.not_mem_nil, or_false] at hv
  rcases hv with rfl | rfl | rfl | rfl <;> rfl
example : (Try.prog.info? 83).map (fun i => (i.size, i.bytes)) = some (13, 104) := by kernel_rfl
example : (Try.prog.info? 88).map (fun i => (i.size, i.bytes)) = some (4, 32) := by kernel_rfl

section
variable {we w : World} {ρ : List (Nat × Obj)} {σ F : List HP} {p lim r cap : Nat} {L : List Nd} {u v : Value} {spare : List Value}

theorem same_vecs {l l' : List Int} {el el' : TypeId} (hS : St we ρ (Vec el 1 v l.length (l.flatMap intL) :: Vec el' 1 u l'.length (l'.flatMap intL) :: F) w) :
    Cl Try.prog 12 [v, u] w fun v w' => v = .bool (decide (l = l')) ∧ St we ρ F w' := by
  obtain ⟨ρ1, o1, s1, hS⟩ := vec_freeze intL_length hS
  obtain ⟨ρ2, o2, s2, hS⟩ := vec_freeze intL_length hS
  exact (same_ints (s1.mono o2.sub) s2 hS).mono (fun _ _ ⟨h, hS⟩ => ⟨h, o1.back (o2.back hS)⟩)

theorem honest_one {b : Nat} {x : Ev} {el : TypeId} {part : Int} (hS : St we ρ (Row b (tevL x) el :: F) w) :
    Cl Try.prog 15 [.slice (some ⟨b, 0, none⟩) 1 1, .int .i64 part] w fun v w' => St we ρ (Vec 3 1 v (honest [x] part).length ((honest [x] part).flatMap intL) :: F) w' := by
  have hf := hS.freeze
  have hsl : Sl ((b, Obj.cells (tevL x).toArray el (0, 0)) :: ρ) tevL 13 (.slice (some ⟨b, 0, none⟩) 1 1) [x] :=
    ⟨⟨some ⟨b, 0, none⟩, 1, rfl, by simp, by unfold maxLen; omega, fun _ => ⟨b, 0, tevL x, el, (0, 0), rfl, by simp, fun i h => by
      obtain rfl : i = 0 := by simp at h; omega
      rfl⟩⟩⟩
  exact (honest_calls (l := [x]) hsl (by simp) hf).mono (fun _ _ hS => hS.ro_tail)

set_option maxHeartbeats 2000000 in
theorem of_calls {l : List Ev} (hl : Sl ρ evL 4 v l) (hle : l.length ≤ 30) (hS : St we ρ σ w) :
    Cl Try.prog 14 [v] w fun v w' => ∃ a b, v = .tuple #[a, b] ∧ St we ρ (Vec 83 13 a l.length (l.flatMap tevL) :: Vec 88 4 b l.length (l.flatMap evL) :: σ) w' := by
  obtain ⟨p1, c1, rfl, k1, k2, hrow⟩ := hl.val
  unfold maxLen at k2
  refine Run.calls1 (n := 42) Try.func14 rfl rfl rfl ?_
  repeat' first
    | refine Run.seq ?_
    | refine Run.region ?_
    | (refine RO.split ?_ ?_ <;> intro hc <;> try (first | (exfalso; omega) | exact absurd rfl hc | exact Bool.noConfusion hc))
    | refine RO.nil ?_
    | refine RO.still (by exact Still.any) hS rfl ?_
    | (apply RO.op; apply OP.box hS; rfl; rfl; rfl; clear hS; intro b w1 hS)
    | (apply RO.op; apply OP.alloc hS; rfl; rfl; rfl; clear hS; intro b w1 hS)
    | (apply RO.op; apply OP.store hS; rfl; rfl; rfl; rfl; rfl; (focus ((repeat (first | apply Has.head | apply Take.head | apply Put.head | apply Has.tail | apply Take.tail | apply Put.tail)); done)); rfl; rfl; clear hS; intro w1 hS)
    | (apply RO.op; apply OP.buildSlice hS; rfl; rfl; (exact eqAuto); rfl; rfl; rfl; rfl; rfl; clear hS; intro b w1 hS)
    | (apply RO.op; apply OP.makeMap hS; rfl; clear hS; intro b w1 hS)
    | refine RO.yes rfl rfl ?_
    | refine RO.no rfl rfl rfl rfl ?_
    | refine RO.noUndef rfl rfl rfl ?_
    | refine RO.noNone rfl rfl rfl ?_
    | refine Run.cond_true rfl ?_
    | refine Run.cond_false rfl ?_
    | refine Run.skip ?_
    | refine Run.block ?_
    | refine Run.inBlock ?_
    | refine Run.exit rfl ?_
  refine Run.while (fun q : Nat × Value × Value => [(4, q.2.1), (5, q.2.2), (8, .slice p1 l.length c1), (9, .int .i64 l.length), (10, .int .i64 q.1)])
    (fun q w => q.1 ≤ l.length ∧ St we ρ (Vec 83 13 q.2.1 (l.take q.1).length ((l.take q.1).flatMap tevL) :: Vec 88 4 q.2.2 (l.take q.1).length ((l.take q.1).flatMap evL) :: σ) w) (fun q => l.length - q.1) (0, .slice none 0 0, .slice none 0 0) ⟨by simp, by exact vec_nil (vec_nil hS)⟩ (by focus ((repeat (first | exact .nil | refine .cons rfl ?_)); done)) ?_
  clear hS
  rintro ⟨i, a, b⟩ w ⟨hi, hS⟩ ih
  simp only at hi hS ih ⊢
  by_cases hlt : i < l.length
  · obtain ⟨bb, off, cs, el, fr, rfl, hmem, hnd⟩ := hrow (by omega)
    have hni := hnd i hlt
    have hlen : (l.take i).length ≤ 30 := by rw [List.length_take]; omega
    have e0 : l.take (i + 1) = l.take i ++ [l[i]] := List.take_succ_eq_append_getElem hlt
    generalize hxx : l[i] = x at hni e0
    obtain ⟨sent, pt, pay, key⟩ := x
    replace hni : List.take 4 (List.drop (off + i * 4) cs) = [.bool sent, .int .i64 pt, .int .i64 pay, .int .i64 key] := hni
    generalize l.take i = out at hS hlen e0
    repeat' first
      | (refine RO.still (by apply Still.loadAgg; rfl; rfl; (exact eqAuto); exact Rd.ro hmem; exact hni; rfl) hS rfl ?_)
      | (apply RO.op; apply OP.append (size := 13) (bytes := 104) (k := 1) (news := tevL ⟨sent, pt, pay, key⟩) hS; rfl; rfl; rfl; rfl; rfl; rfl; rfl; rfl; exact (by omega); (focus ((repeat (first | apply Has.head | apply Take.head | apply Put.head | apply Has.tail | apply Take.tail | apply Put.tail)); done)); (exact Rd.any); rfl; rfl; exact tevL_one _; (exact (by unfold maxLen; omega)); (exact (by omega)); rfl
         clear hS; intro v2 w1 hS)
      | (apply RO.op; apply OP.append (size := 4) (bytes := 32) (k := 1) (news := evL ⟨sent, pt, pay, key⟩) hS; rfl; rfl; rfl; rfl; rfl; rfl; rfl; rfl; exact (by omega); (focus ((repeat (first | apply Has.head | apply Take.head | apply Put.head | apply Has.tail | apply Take.tail | apply Put.tail)); done)); (exact Rd.any); rfl; rfl; exact evL_one _; (exact (by unfold maxLen; omega)); (exact (by omega)); rfl
         clear hS; intro v3 w1 hS)
      | refine Run.seq ?_
      | refine Run.region ?_
      | (refine RO.split ?_ ?_ <;> intro hc <;> try (first | (exfalso; omega) | exact absurd rfl hc | exact Bool.noConfusion hc))
      | refine RO.nil ?_
      | refine RO.still (by exact Still.any) hS rfl ?_
      | (apply RO.op; apply OP.box hS; rfl; rfl; rfl; clear hS; intro b w1 hS)
      | (apply RO.op; apply OP.alloc hS; rfl; rfl; rfl; clear hS; intro b w1 hS)
      | (apply RO.op; apply OP.store hS; rfl; rfl; rfl; rfl; rfl; (focus ((repeat (first | apply Has.head | apply Take.head | apply Put.head | apply Has.tail | apply Take.tail | apply Put.tail)); done)); rfl; rfl; clear hS; intro w1 hS)
      | (apply RO.op; apply OP.buildSlice hS; rfl; rfl; (exact eqAuto); rfl; rfl; rfl; rfl; rfl; clear hS; intro b w1 hS)
      | (apply RO.op; apply OP.makeMap hS; rfl; clear hS; intro b w1 hS)
      | refine RO.yes rfl rfl ?_
      | refine RO.no rfl rfl rfl rfl ?_
      | refine RO.noUndef rfl rfl rfl ?_
      | refine RO.noNone rfl rfl rfl ?_
      | refine Run.cond_true rfl ?_
      | refine Run.cond_false rfl ?_
      | refine Run.skip ?_
      | refine Run.block ?_
      | refine Run.inBlock ?_
      | refine Run.exit rfl ?_
    refine Run.weaken (by focus ((repeat (first | exact .nil | refine .cons rfl ?_)); done)) (ih (i + 1, v2, v3) _ ⟨by simp; omega, ?_⟩ (by simp; omega))
    simp only [e0]
    rw [List.length_append, List.flatMap_append, List.flatMap_append]
    exact hS.picks (by focus ((repeat (first | apply Picks.all | apply Picks.nil | (refine Picks.cons (by repeat (first | apply Take.head | apply Take.tail)) ?_) | apply Picks.drop)); done))
  · obtain rfl : i = l.length := by omega
    rw [List.take_of_length_le (Nat.le_refl _)] at hS
    repeat' first
      | refine Run.seq ?_
      | refine Run.region ?_
      | (refine RO.split ?_ ?_ <;> intro hc <;> try (first | (exfalso; omega) | exact absurd rfl hc | exact Bool.noConfusion hc))
      | refine RO.nil ?_
      | refine RO.still (by exact Still.any) hS rfl ?_
      | (apply RO.op; apply OP.box hS; rfl; rfl; rfl; clear hS; intro b w1 hS)
      | (apply RO.op; apply OP.alloc hS; rfl; rfl; rfl; clear hS; intro b w1 hS)
      | (apply RO.op; apply OP.store hS; rfl; rfl; rfl; rfl; rfl; (focus ((repeat (first | apply Has.head | apply Take.head | apply Put.head | apply Has.tail | apply Take.tail | apply Put.tail)); done)); rfl; rfl; clear hS; intro w1 hS)
      | (apply RO.op; apply OP.buildSlice hS; rfl; rfl; (exact eqAuto); rfl; rfl; rfl; rfl; rfl; clear hS; intro b w1 hS)
      | (apply RO.op; apply OP.makeMap hS; rfl; clear hS; intro b w1 hS)
      | refine RO.yes rfl rfl ?_
      | refine RO.no rfl rfl rfl rfl ?_
      | refine RO.noUndef rfl rfl rfl ?_
      | refine RO.noNone rfl rfl rfl ?_
      | refine Run.cond_true rfl ?_
      | refine Run.cond_false rfl ?_
      | refine Run.skip ?_
      | refine Run.block ?_
      | refine Run.inBlock ?_
      | refine Run.exit rfl ?_
    refine Run.ret Try.func14 rfl (.tmp rfl (.tmp rfl .nil)) ?_
    exact ⟨_, _, rfl, hS.picks (by focus ((repeat (first | apply Picks.all | apply Picks.nil | (refine Picks.cons (by repeat (first | apply Take.head | apply Take.tail)) ?_) | apply Picks.drop)); done))⟩

def wk18 : Nat → List Nd
  | 0 => [Nd.z]
  | 1 => [Nd.z, ⟨1, 1, 0, 0, 0⟩]
  | 2 => [Nd.z, ⟨1, 1, 0, 0, 0⟩, ⟨6, 1, 0, 1, 0⟩]
  | 3 => [Nd.z, ⟨1, 1, 0, 0, 0⟩, ⟨6, 1, 0, 1, 0⟩, ⟨6, 2, 2, 0, 0⟩]
  | _ => [Nd.z, ⟨1, 1, 0, 0, 0⟩, ⟨6, 1, 0, 1, 0⟩, ⟨6, 2, 2, 0, 0⟩, ⟨7, 0, 3, 0, 1⟩]
theorem wk1 : mk 20 (wk18 0) ⟨1, 1, 0, 0, 0⟩ = (wk18 1, 1, 0) := by kernel_rfl
theorem wk2 : mk 20 (wk18 1) ⟨6, 1, 0, 1, 0⟩ = (wk18 2, 2, 0) := by kernel_rfl
theorem wk3 : mk 20 (wk18 2) ⟨6, 2, 2, 0, 0⟩ = (wk18 3, 3, 0) := by kernel_rfl
theorem wk4 : mk 20 (wk18 3) ⟨7, 0, 3, 0, 1⟩ = (wk18 4, 4, 0) := by kernel_rfl
theorem wk5 : mixed (wk18 4) 3 = [1] := by kernel_rfl
theorem wk6 : (nd (wk18 4) 4) = ⟨7, 0, 3, 0, 1⟩ := by kernel_rfl
theorem wk7 : honest [⟨true, 4, 0, 0⟩] 4 = [0] := by kernel_rfl

theorem vec_one {el : TypeId} {x : Int} {v : Value} (h : St we ρ (Vec el 1 v 1 [.int .i64 x] :: F) w) : ∃ g cap spare, v = .slice (some ⟨g, 0, none⟩) 1 cap ∧ St we ρ (Row g (.int .i64 x :: spare) el :: F) w := by
  obtain ⟨_, ⟨_, h0, _⟩ | ⟨g, cap, spare, rfl, _, _, _, hS⟩⟩ := vec_open h
  · omega
  · exact ⟨g, cap, spare, rfl, hS⟩

set_option maxHeartbeats 4000000 in
theorem awake_calls (hS : St we ρ σ w) : Cl Try.prog 10 [] w fun v w' => v = .bool true ∧ St we ρ σ w' := by
  refine Run.calls0 (n := 85) Try.func10 rfl rfl ?_
  repeat' first
    | (apply RO.op; apply OP.callF; rfl; rfl; rfl; show Cl _ 9 _ _ _; exact new_calls hS; clear hS; rintro v w1 ⟨p, rfl, hS⟩; replace hS : St we ρ (Arena p 20 (wk18 0) :: σ) w1 := hS)
    | (apply OP.callF; rfl; rfl; rfl; show Cl _ 9 _ _ _; exact new_calls hS; clear hS; rintro v w1 ⟨p, rfl, hS⟩; replace hS : St we ρ (Arena p 20 (wk18 0) :: σ) w1 := hS; refine ⟨(by first | exact hS | exact hS.tail | exact hS.sublist (by repeat (first | exact List.Sublist.refl _ | refine .cons_cons _ ?_ | refine .cons _ ?_))), ?_⟩)
    | (apply RO.op; apply OP.callF; rfl; rfl; rfl; show Cl _ 11 _ _ _; (first | (apply mk_is wk1; exact hS) | (apply mk_is wk2; exact hS) | (apply mk_is wk3; exact hS) | (apply mk_is wk4; exact hS)); clear hS; rintro v w1 ⟨rfl, hS⟩)
    | (apply RO.op; apply OP.callF; rfl; rfl; rfl; show Cl _ 17 _ _ _; exact key_calls (hS.take (by focus ((repeat (first | apply Has.head | apply Take.head | apply Put.head | apply Has.tail | apply Take.tail | apply Put.tail)); done))); clear hS; rintro v w1 ⟨rfl, hS⟩; rw [wk6])
    | (apply OP.callF; rfl; rfl; rfl; show Cl _ 17 _ _ _; exact key_calls (hS.take (by focus ((repeat (first | apply Has.head | apply Take.head | apply Put.head | apply Has.tail | apply Take.tail | apply Put.tail)); done))); clear hS; rintro v w1 ⟨rfl, hS⟩; rw [wk6]; refine ⟨(by first | exact hS | exact hS.tail | exact hS.sublist (by repeat (first | exact List.Sublist.refl _ | refine .cons_cons _ ?_ | refine .cons _ ?_))), ?_⟩)
    | (apply RO.op; apply OP.callF; rfl; rfl; rfl; show Cl _ 13 _ _ _; exact mixed_calls (hS.take (by focus ((repeat (first | apply Has.head | apply Take.head | apply Put.head | apply Has.tail | apply Take.tail | apply Put.tail)); done))); clear hS; intro v w1 hS; rw [wk5] at hS; obtain ⟨g1, cap1, spare1, rfl, hT⟩ := vec_one hS; clear hS; have hS := hT; clear hT)
    | (apply OP.callF; rfl; rfl; rfl; show Cl _ 13 _ _ _; exact mixed_calls (hS.take (by focus ((repeat (first | apply Has.head | apply Take.head | apply Put.head | apply Has.tail | apply Take.tail | apply Put.tail)); done))); clear hS; intro v w1 hS; rw [wk5] at hS; obtain ⟨g1, cap1, spare1, rfl, hT⟩ := vec_one hS; clear hS; have hS := hT; clear hT; refine ⟨(by first | exact hS | exact hS.tail | exact hS.sublist (by repeat (first | exact List.Sublist.refl _ | refine .cons_cons _ ?_ | refine .cons _ ?_))), ?_⟩)
    | (apply RO.op; apply OP.callF; rfl; rfl; rfl; show Cl _ 15 _ _ _; exact honest_one (x := ⟨true, 4, 0, 0⟩) (hS.take (by focus ((repeat (first | apply Has.head | apply Take.head | apply Put.head | apply Has.tail | apply Take.tail | apply Put.tail)); done))); clear hS; intro v w1 hS; rw [wk7] at hS; obtain ⟨g2, cap2, spare2, rfl, hT⟩ := vec_one hS; clear hS; have hS := hT; clear hT)
    | (apply OP.callF; rfl; rfl; rfl; show Cl _ 15 _ _ _; exact honest_one (x := ⟨true, 4, 0, 0⟩) (hS.take (by focus ((repeat (first | apply Has.head | apply Take.head | apply Put.head | apply Has.tail | apply Take.tail | apply Put.tail)); done))); clear hS; intro v w1 hS; rw [wk7] at hS; obtain ⟨g2, cap2, spare2, rfl, hT⟩ := vec_one hS; clear hS; have hS := hT; clear hT; refine ⟨(by first | exact hS | exact hS.tail | exact hS.sublist (by repeat (first | exact List.Sublist.refl _ | refine .cons_cons _ ?_ | refine .cons _ ?_))), ?_⟩)
    | refine Run.seq ?_
    | refine Run.region ?_
    | (refine RO.split ?_ ?_ <;> intro hc <;> try (first | (exfalso; omega) | exact absurd rfl hc | exact Bool.noConfusion hc))
    | refine RO.nil ?_
    | refine RO.still (by exact Still.any) hS rfl ?_
    | (apply RO.op; apply OP.box hS; rfl; rfl; rfl; clear hS; intro b w1 hS)
    | (apply RO.op; apply OP.alloc hS; rfl; rfl; rfl; clear hS; intro b w1 hS)
    | (apply RO.op; apply OP.store hS; rfl; rfl; rfl; rfl; rfl; (focus ((repeat (first | apply Has.head | apply Take.head | apply Put.head | apply Has.tail | apply Take.tail | apply Put.tail)); done)); rfl; rfl; clear hS; intro w1 hS)
    | (apply RO.op; apply OP.buildSlice hS; rfl; rfl; (exact eqAuto); rfl; rfl; rfl; rfl; rfl; clear hS; intro b w1 hS)
    | (apply RO.op; apply OP.makeMap hS; rfl; clear hS; intro b w1 hS)
    | refine RO.yes rfl rfl ?_
    | refine RO.no rfl rfl rfl rfl ?_
    | refine RO.noUndef rfl rfl rfl ?_
    | refine RO.noNone rfl rfl rfl ?_
    | refine Run.cond_true rfl ?_
    | refine Run.cond_false rfl ?_
    | refine Run.skip ?_
    | refine Run.block ?_
    | refine Run.inBlock ?_
    | refine Run.exit rfl ?_
  all_goals
    refine Run.ret Try.func10 rfl (.tmp rfl .nil) ?_
    exact ⟨rfl, hS.picks (by focus ((repeat (first | apply Picks.all | apply Picks.nil | (refine Picks.cons (by repeat (first | apply Take.head | apply Take.tail)) ?_) | apply Picks.drop)); done))⟩
end
end Go.Proofs.Ytcigkkedffggiaa
