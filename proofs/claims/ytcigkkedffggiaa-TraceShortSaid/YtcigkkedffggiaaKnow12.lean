/-
  The document's answer for the layer of what is known: Can.
-/
import Derived.Test.YtcigkkedffggiaaKnow11
namespace Go.Proofs.Ytcigkkedffggiaa
set_option maxRecDepth 8000
set_option linter.unusedSimpArgs false
set_option linter.unusedVariables false
open Go Go.RowKit

/-- What can be made, as far as terms ahead of i. -/
def canTo (L : List Nd) (K : Int → Bool) (i : Nat) : Int → Bool := fun y => decide (y < i) && can L K y
theorem canTo_zero {L : List Nd} {K : Int → Bool} : boolsL L (canTo L K 0) = List.replicate L.length (Value.bool false) := by
  rw [← boolsL_none]
  refine boolsL_congr fun x hx => ?_
  have := has_iff.1 hx
  unfold canTo
  rw [decide_eq_false (by omega)]; rfl
theorem canTo_all {L : List Nd} {K : Int → Bool} : boolsL L (canTo L K L.length) = boolsL L (can L K) := by
  refine boolsL_congr fun x hx => ?_
  have := has_iff.1 hx
  unfold canTo
  rw [decide_eq_true (by omega)]; rfl
theorem canTo_put {L : List Nd} {K : Int → Bool} {i : Nat} (hi : i < L.length) : (boolsL L (canTo L K i)).take i ++ [.bool (can L K i)] ++ (boolsL L (canTo L K i)).drop (i + 1) = boolsL L (canTo L K (i + 1)) := by
  have := boolsL_put (K := canTo L K i) (b := can L K i) (spare := []) (has_of hi)
  rw [List.append_nil, List.append_nil, Int.toNat_natCast] at this
  rw [this]
  refine boolsL_congr fun x hx => ?_
  unfold upd canTo
  by_cases h : x = (i : Int)
  · subst h
    rw [if_pos rfl, decide_eq_true (by omega)]; rfl
  · rw [if_neg h]
    congr 1
    by_cases h2 : x < i
    · rw [decide_eq_true h2, decide_eq_true (by omega)]
    · rw [decide_eq_false h2, decide_eq_false (by omega)]
theorem canTo_get {L : List Nd} {K : Int → Bool} {i : Nat} {x : Int} (h : has L x = true) (hx : x < i) : (boolsL L (canTo L K i))[x.toNat]? = some (.bool (can L K x)) := by
  have := boolsL_get (K := canTo L K i) (spare := []) h
  rw [List.append_nil] at this
  rw [this]
  unfold canTo
  rw [decide_eq_true hx]; rfl

section
variable {we w : World} {ρ : List (Nat × Obj)} {σ F : List HP} {lim lim' r cap : Nat} {L : List Nd} {K : Int → Bool} {spare : List Value}

set_option maxHeartbeats 16000000 in
theorem refCan {bk ck : Nat} {spk : List Value} (g : Good lim L) (hS : St we ρ σ w) (hr : Rd ρ σ r (.cells (flat L ++ spare).toArray 58 (0, 0)))
    (hk : Rd ρ σ bk (.cells (boolsL L K ++ spk).toArray 4 (0, 0))) :
    Cl Try.prog 41 [raV lim' r L.length cap, .slice (some ⟨bk, 0, none⟩) L.length ck] w fun v w' => ∃ b, v = .slice (some ⟨b, 0, none⟩) L.length L.length ∧ St we ρ (Row b (boolsL L (can L K)) 4 :: σ) w' := by
  have hlim := g.lim
  have hlen := g.len
  refine Run.calls2 (n := 134) Try.func41 rfl rfl rfl ?_
  repeat' first
    | (apply RO.op; apply OP.makeRow (z := .bool false) hS; rfl; rfl; rfl; rfl; rfl; rfl; rfl; (exact (by omega)); decide; rfl; clear hS; intro bo w1 hS)
    | refine Run.seq ?_
    | refine Run.region ?_
    | (refine RO.split ?_ ?_ <;> intro hc <;> try (first | (exfalso; omega) | exact absurd rfl hc | exact Bool.noConfusion hc))
    | refine RO.nil ?_
    | refine RO.still (by exact Still.any) hS rfl ?_
    | (apply RO.op; apply OP.box hS; rfl; rfl; rfl; clear hS; intro b w1 hS)
    | (apply RO.op; apply OP.alloc hS; rfl; rfl; rfl; clear hS; intro b w1 hS)
    | (apply RO.op; apply OP.store hS; rfl; rfl; rfl; rfl; rfl; (focus ((repeat (first | apply Has.head | apply Take.head | apply Put.head | apply Has.tail | apply Take.tail | apply Put.tail)); done)); rfl; rfl; clear hS; intro w1 hS)
    | (apply RO.op; apply OP.buildSlice hS; rfl; rfl; (exact eqAuto); rfl; rfl; rfl; rfl; rfl; clear hS; intro b w1 hS)
    | (apply RO.op; apply OP.makeMap hS; rfl; clear hS; intro b w1 hS)
    | refine RO.yes rfl rfl ?_
    | refine RO.no rfl rfl rfl rfl ?_
    | refine RO.noUndef rfl rfl rfl ?_
    | refine RO.noNone rfl rfl rfl ?_
    | refine Run.cond_true rfl ?_
    | refine Run.cond_false rfl ?_
    | refine Run.skip ?_
    | refine Run.block ?_
    | refine Run.inBlock ?_
    | refine Run.exit rfl ?_
  obtain ⟨b0, hb0⟩ : ∃ x, x = b := ⟨b, rfl⟩
  subst hb0
  rw [← canTo_zero (K := K)] at hS
  refine Run.while (fun i : Nat => [(1, .slice (some ⟨bk, 0, none⟩) L.length ck), (2, .pointer (some ⟨b0, 0, none⟩)), (5, .slice (some ⟨bo, 0, none⟩) L.length L.length), (6, .int .i64 i)])
    (fun i w => i ≤ L.length ∧ St we ρ (Row bo (boolsL L (canTo L K i)) 4 :: Row b0 [.int .i64 lim', .slice (some ⟨r, 0, none⟩) L.length cap] 48 :: σ) w) (fun i => L.length - i) 0
    ⟨by omega, hS.picks (by focus ((repeat (first | apply Picks.all | apply Picks.nil | (refine Picks.cons (by repeat (first | apply Take.head | apply Take.tail)) ?_) | apply Picks.drop)); done))⟩ (by focus ((repeat (first | exact .nil | refine .cons rfl ?_)); done)) ?_
  clear hS
  rintro i w ⟨hi, hS⟩ ih
  by_cases hlt : i < L.length
  · have hih : has L (i : Int) = true := has_of hlt
    have fn : ((flat L ++ spare).drop (i * 5)).take 5 = ndL (nd L i) := flat_take (x := (i : Int)) hih
    have fk : (boolsL L K ++ spk)[i]? = some (.bool (K i)) := boolsL_get (x := (i : Int)) hih
    have hput := canTo_put (K := K) hlt
    have hceq := can_eq g K hih
    have hble : Nat.ble (i + 1) (boolsL L (canTo L K i)).length = true := by rw [boolsL_length]; exact Nat.ble_eq_true_of_le hlt
    have hsh := g.shape i hih
    obtain ⟨s1, s2, -⟩ := hsh
    obtain ⟨kk, hkk⟩ : ∃ b, K (i : Int) = b := ⟨_, rfl⟩
    rw [hkk] at fk hceq
    repeat' first
      | (refine Run.mid (id := 2) (fun w => St we ρ (Row bo (boolsL L (canTo L K i)) 4 :: Row b0 [.int .i64 lim', .slice (some ⟨r, 0, none⟩) L.length cap] 48 :: σ) w)
          [(1, .slice (some ⟨bk, 0, none⟩) L.length ck), (2, .pointer (some ⟨b0, 0, none⟩)), (5, .slice (some ⟨bo, 0, none⟩) L.length L.length), (6, .int .i64 i), (8, .bool (can L K i))] ?_ ?_)
      | (refine RO.still (by apply Still.load; rfl; rfl; (exact Rd.any); exact fk) hS rfl ?_)
      | (refine RO.still (by apply Still.loadAgg; rfl; rfl; (exact eqAuto); (exact Rd.any); exact fn; rfl) hS rfl ?_)
      | refine Run.seq ?_
      | refine Run.region ?_
      | (refine RO.split ?_ ?_ <;> intro hc <;> try (first | (exfalso; omega) | exact absurd rfl hc | exact Bool.noConfusion hc))
      | refine RO.nil ?_
      | refine RO.still (by exact Still.any) hS rfl ?_
      | (apply RO.op; apply OP.box hS; rfl; rfl; rfl; clear hS; intro b w1 hS)
      | (apply RO.op; apply OP.alloc hS; rfl; rfl; rfl; clear hS; intro b w1 hS)
      | (apply RO.op; apply OP.store hS; rfl; rfl; rfl; rfl; rfl; (focus ((repeat (first | apply Has.head | apply Take.head | apply Put.head | apply Has.tail | apply Take.tail | apply Put.tail)); done)); rfl; rfl; clear hS; intro w1 hS)
      | (apply RO.op; apply OP.buildSlice hS; rfl; rfl; (exact eqAuto); rfl; rfl; rfl; rfl; rfl; clear hS; intro b w1 hS)
      | (apply RO.op; apply OP.makeMap hS; rfl; clear hS; intro b w1 hS)
      | refine RO.yes rfl rfl ?_
      | refine RO.no rfl rfl rfl rfl ?_
      | refine RO.noUndef rfl rfl rfl ?_
      | refine RO.noNone rfl rfl rfl ?_
      | refine Run.cond_true rfl ?_
      | refine Run.cond_false rfl ?_
      | refine Run.skip ?_
      | refine Run.block ?_
      | refine Run.inBlock ?_
      | refine Run.exit rfl ?_
    · clear hS
      intro w hS
      repeat' first
        | (apply RO.op; apply OP.store hS; rfl; rfl; rfl; rfl; rfl; (focus ((repeat (first | apply Has.head | apply Take.head | apply Put.head | apply Has.tail | apply Take.tail | apply Put.tail)); done)); exact hble; exact hput; clear hS; intro w1 hS)
        | refine Run.seq ?_
        | refine Run.region ?_
        | (refine RO.split ?_ ?_ <;> intro hc <;> try (first | (exfalso; omega) | exact absurd rfl hc | exact Bool.noConfusion hc))
        | refine RO.nil ?_
        | refine RO.still (by exact Still.any) hS rfl ?_
        | (apply RO.op; apply OP.box hS; rfl; rfl; rfl; clear hS; intro b w1 hS)
        | (apply RO.op; apply OP.alloc hS; rfl; rfl; rfl; clear hS; intro b w1 hS)
        | (apply RO.op; apply OP.store hS; rfl; rfl; rfl; rfl; rfl; (focus ((repeat (first | apply Has.head | apply Take.head | apply Put.head | apply Has.tail | apply Take.tail | apply Put.tail)); done)); rfl; rfl; clear hS; intro w1 hS)
        | (apply RO.op; apply OP.buildSlice hS; rfl; rfl; (exact eqAuto); rfl; rfl; rfl; rfl; rfl; clear hS; intro b w1 hS)
        | (apply RO.op; apply OP.makeMap hS; rfl; clear hS; intro b w1 hS)
        | refine RO.yes rfl rfl ?_
        | refine RO.no rfl rfl rfl rfl ?_
        | refine RO.noUndef rfl rfl rfl ?_
        | refine RO.noNone rfl rfl rfl ?_
        | refine Run.cond_true rfl ?_
        | refine Run.cond_false rfl ?_
        | refine Run.skip ?_
        | refine Run.block ?_
        | refine Run.inBlock ?_
        | refine Run.exit rfl ?_
      refine Run.weaken (by focus ((repeat (first | exact .nil | refine .cons rfl ?_)); done)) (ih (i + 1) _ ⟨by omega, hS.picks (by focus ((repeat (first | apply Picks.all | apply Picks.nil | (refine Picks.cons (by repeat (first | apply Take.head | apply Take.tail)) ?_) | apply Picks.drop)); done))⟩ (by omega))
    clear ih
    intro mid
    by_cases k9 : (nd L i).k = 0 ∨ (nd L i).k = 9
    · have hc : canR L K (can L K) i = true := by unfold canR; rw [if_pos k9]
      rw [hc, Bool.or_true] at hceq
      rw [hceq] at mid
      rcases k9 with k9 | k9
      all_goals
        repeat' first
          | exact Run.weaken (by focus ((repeat (first | exact .nil | refine .cons rfl ?_)); done)) (mid _ (hS.picks (by focus ((repeat (first | apply Picks.all | apply Picks.nil | (refine Picks.cons (by repeat (first | apply Take.head | apply Take.tail)) ?_) | apply Picks.drop)); done))))
          | (refine RO.still (by apply Still.load; rfl; rfl; (exact Rd.any); exact fa) hS rfl ?_)
          | (refine RO.still (by apply Still.load; rfl; rfl; (exact Rd.any); exact fb) hS rfl ?_)
          | (refine RO.still (by apply Still.load; rfl; rfl; (exact Rd.any); exact fc) hS rfl ?_)
          | (apply RO.op; apply OP.callF; rfl; rfl; rfl; apply public_calls (x := (nd L i).b) g p2 hS; (exact Rd.any); (exact Rd.any); (exact Rd.any); exact fb; clear hS; rintro v w1 ⟨rfl, hS⟩; rw [hpb])
          | (apply RO.op; apply OP.callF; rfl; rfl; rfl; apply public_calls (x := (nd L i).a) g p1 hS; (exact Rd.any); (exact Rd.any); (exact Rd.any); exact fa; clear hS; rintro v w1 ⟨rfl, hS⟩; rw [hpa])
          | refine Run.seq ?_
          | refine Run.region ?_
          | (refine RO.split ?_ ?_ <;> intro hc <;> try (first | (exfalso; omega) | exact absurd rfl hc | exact Bool.noConfusion hc))
          | refine RO.nil ?_
          | refine RO.still (by exact Still.any) hS rfl ?_
          | (apply RO.op; apply OP.box hS; rfl; rfl; rfl; clear hS; intro b w1 hS)
          | (apply RO.op; apply OP.alloc hS; rfl; rfl; rfl; clear hS; intro b w1 hS)
          | (apply RO.op; apply OP.store hS; rfl; rfl; rfl; rfl; rfl; (focus ((repeat (first | apply Has.head | apply Take.head | apply Put.head | apply Has.tail | apply Take.tail | apply Put.tail)); done)); rfl; rfl; clear hS; intro w1 hS)
          | (apply RO.op; apply OP.buildSlice hS; rfl; rfl; (exact eqAuto); rfl; rfl; rfl; rfl; rfl; clear hS; intro b w1 hS)
          | (apply RO.op; apply OP.makeMap hS; rfl; clear hS; intro b w1 hS)
          | refine RO.yes rfl rfl ?_
          | refine RO.no rfl rfl rfl rfl ?_
          | refine RO.noUndef rfl rfl rfl ?_
          | refine RO.noNone rfl rfl rfl ?_
          | refine Run.cond_true rfl ?_
          | refine Run.cond_false rfl ?_
          | refine Run.skip ?_
          | refine Run.block ?_
          | refine Run.inBlock ?_
          | refine Run.exit rfl ?_
    by_cases k1 : (nd L i).k = 1
    · have hc : canR L K (can L K) i = decide (4294967296 ≤ (nd L i).n) := by unfold canR; rw [if_neg k9, if_pos k1]
      rw [hc] at hceq
      by_cases hn : 4294967296 ≤ (nd L i).n
      · rw [decide_eq_true hn] at hceq
        rw [hceq] at mid
        cases kk
        all_goals
          repeat' first
            | exact Run.weaken (by focus ((repeat (first | exact .nil | refine .cons rfl ?_)); done)) (mid _ (hS.picks (by focus ((repeat (first | apply Picks.all | apply Picks.nil | (refine Picks.cons (by repeat (first | apply Take.head | apply Take.tail)) ?_) | apply Picks.drop)); done))))
            | (refine RO.still (by apply Still.load; rfl; rfl; (exact Rd.any); exact fa) hS rfl ?_)
            | (refine RO.still (by apply Still.load; rfl; rfl; (exact Rd.any); exact fb) hS rfl ?_)
            | (refine RO.still (by apply Still.load; rfl; rfl; (exact Rd.any); exact fc) hS rfl ?_)
            | (apply RO.op; apply OP.callF; rfl; rfl; rfl; apply public_calls (x := (nd L i).b) g p2 hS; (exact Rd.any); (exact Rd.any); (exact Rd.any); exact fb; clear hS; rintro v w1 ⟨rfl, hS⟩; rw [hpb])
            | (apply RO.op; apply OP.callF; rfl; rfl; rfl; apply public_calls (x := (nd L i).a) g p1 hS; (exact Rd.any); (exact Rd.any); (exact Rd.any); exact fa; clear hS; rintro v w1 ⟨rfl, hS⟩; rw [hpa])
            | refine Run.seq ?_
            | refine Run.region ?_
            | (refine RO.split ?_ ?_ <;> intro hc <;> try (first | (exfalso; omega) | exact absurd rfl hc | exact Bool.noConfusion hc))
            | refine RO.nil ?_
            | refine RO.still (by exact Still.any) hS rfl ?_
            | (apply RO.op; apply OP.box hS; rfl; rfl; rfl; clear hS; intro b w1 hS)
            | (apply RO.op; apply OP.alloc hS; rfl; rfl; rfl; clear hS; intro b w1 hS)
            | (apply RO.op; apply OP.store hS; rfl; rfl; rfl; rfl; rfl; (focus ((repeat (first | apply Has.head | apply Take.head | apply Put.head | apply Has.tail | apply Take.tail | apply Put.tail)); done)); rfl; rfl; clear hS; intro w1 hS)
            | (apply RO.op; apply OP.buildSlice hS; rfl; rfl; (exact eqAuto); rfl; rfl; rfl; rfl; rfl; clear hS; intro b w1 hS)
            | (apply RO.op; apply OP.makeMap hS; rfl; clear hS; intro b w1 hS)
            | refine RO.yes rfl rfl ?_
            | refine RO.no rfl rfl rfl rfl ?_
            | refine RO.noUndef rfl rfl rfl ?_
            | refine RO.noNone rfl rfl rfl ?_
            | refine Run.cond_true rfl ?_
            | refine Run.cond_false rfl ?_
            | refine Run.skip ?_
            | refine Run.block ?_
            | refine Run.inBlock ?_
            | refine Run.exit rfl ?_
      · rw [decide_eq_false hn] at hceq
        rw [hceq] at mid
        cases kk
        all_goals
          repeat' first
            | exact Run.weaken (by focus ((repeat (first | exact .nil | refine .cons rfl ?_)); done)) (mid _ (hS.picks (by focus ((repeat (first | apply Picks.all | apply Picks.nil | (refine Picks.cons (by repeat (first | apply Take.head | apply Take.tail)) ?_) | apply Picks.drop)); done))))
            | (refine RO.still (by apply Still.load; rfl; rfl; (exact Rd.any); exact fa) hS rfl ?_)
            | (refine RO.still (by apply Still.load; rfl; rfl; (exact Rd.any); exact fb) hS rfl ?_)
            | (refine RO.still (by apply Still.load; rfl; rfl; (exact Rd.any); exact fc) hS rfl ?_)
            | (apply RO.op; apply OP.callF; rfl; rfl; rfl; apply public_calls (x := (nd L i).b) g p2 hS; (exact Rd.any); (exact Rd.any); (exact Rd.any); exact fb; clear hS; rintro v w1 ⟨rfl, hS⟩; rw [hpb])
            | (apply RO.op; apply OP.callF; rfl; rfl; rfl; apply public_calls (x := (nd L i).a) g p1 hS; (exact Rd.any); (exact Rd.any); (exact Rd.any); exact fa; clear hS; rintro v w1 ⟨rfl, hS⟩; rw [hpa])
            | refine Run.seq ?_
            | refine Run.region ?_
            | (refine RO.split ?_ ?_ <;> intro hc <;> try (first | (exfalso; omega) | exact absurd rfl hc | exact Bool.noConfusion hc))
            | refine RO.nil ?_
            | refine RO.still (by exact Still.any) hS rfl ?_
            | (apply RO.op; apply OP.box hS; rfl; rfl; rfl; clear hS; intro b w1 hS)
            | (apply RO.op; apply OP.alloc hS; rfl; rfl; rfl; clear hS; intro b w1 hS)
            | (apply RO.op; apply OP.store hS; rfl; rfl; rfl; rfl; rfl; (focus ((repeat (first | apply Has.head | apply Take.head | apply Put.head | apply Has.tail | apply Take.tail | apply Put.tail)); done)); rfl; rfl; clear hS; intro w1 hS)
            | (apply RO.op; apply OP.buildSlice hS; rfl; rfl; (exact eqAuto); rfl; rfl; rfl; rfl; rfl; clear hS; intro b w1 hS)
            | (apply RO.op; apply OP.makeMap hS; rfl; clear hS; intro b w1 hS)
            | refine RO.yes rfl rfl ?_
            | refine RO.no rfl rfl rfl rfl ?_
            | refine RO.noUndef rfl rfl rfl ?_
            | refine RO.noNone rfl rfl rfl ?_
            | refine Run.cond_true rfl ?_
            | refine Run.cond_false rfl ?_
            | refine Run.skip ?_
            | refine Run.block ?_
            | refine Run.inBlock ?_
            | refine Run.exit rfl ?_
    rcases nd_parts g hih with h0 | ⟨p1, p2, p3, q1, q2, q3⟩
    · exact absurd (.inl h0) k9
    have r1 := has_iff.1 p1
    have r2 := has_iff.1 p2
    have r3 := has_iff.1 p3
    have fa := canTo_get (K := K) p1 q1
    have fb := canTo_get (K := K) p2 q2
    have fc := canTo_get (K := K) p3 q3
    obtain ⟨ca, hca⟩ : ∃ b, can L K (nd L i).a = b := ⟨_, rfl⟩
    obtain ⟨cb, hcb⟩ : ∃ b, can L K (nd L i).b = b := ⟨_, rfl⟩
    obtain ⟨cc, hcc⟩ : ∃ b, can L K (nd L i).c = b := ⟨_, rfl⟩
    obtain ⟨pa, hpa⟩ : ∃ b, pubK L K (nd L i).a = b := ⟨_, rfl⟩
    obtain ⟨pb, hpb⟩ : ∃ b, pubK L K (nd L i).b = b := ⟨_, rfl⟩
    rw [hca] at fa
    rw [hcb] at fb
    rw [hcc] at fc
    by_cases k2 : (nd L i).k = 2
    · have hc : canR L K (can L K) i = ca := by unfold canR; rw [if_neg k9, if_neg k1, if_pos k2, hca]
      rw [hc] at hceq
      rw [hceq] at mid
      cases kk <;> cases ca
      all_goals
        repeat' first
          | exact Run.weaken (by focus ((repeat (first | exact .nil | refine .cons rfl ?_)); done)) (mid _ (hS.picks (by focus ((repeat (first | apply Picks.all | apply Picks.nil | (refine Picks.cons (by repeat (first | apply Take.head | apply Take.tail)) ?_) | apply Picks.drop)); done))))
          | (refine RO.still (by apply Still.load; rfl; rfl; (exact Rd.any); exact fa) hS rfl ?_)
          | (refine RO.still (by apply Still.load; rfl; rfl; (exact Rd.any); exact fb) hS rfl ?_)
          | (refine RO.still (by apply Still.load; rfl; rfl; (exact Rd.any); exact fc) hS rfl ?_)
          | (apply RO.op; apply OP.callF; rfl; rfl; rfl; apply public_calls (x := (nd L i).b) g p2 hS; (exact Rd.any); (exact Rd.any); (exact Rd.any); exact fb; clear hS; rintro v w1 ⟨rfl, hS⟩; rw [hpb])
          | (apply RO.op; apply OP.callF; rfl; rfl; rfl; apply public_calls (x := (nd L i).a) g p1 hS; (exact Rd.any); (exact Rd.any); (exact Rd.any); exact fa; clear hS; rintro v w1 ⟨rfl, hS⟩; rw [hpa])
          | refine Run.seq ?_
          | refine Run.region ?_
          | (refine RO.split ?_ ?_ <;> intro hc <;> try (first | (exfalso; omega) | exact absurd rfl hc | exact Bool.noConfusion hc))
          | refine RO.nil ?_
          | refine RO.still (by exact Still.any) hS rfl ?_
          | (apply RO.op; apply OP.box hS; rfl; rfl; rfl; clear hS; intro b w1 hS)
          | (apply RO.op; apply OP.alloc hS; rfl; rfl; rfl; clear hS; intro b w1 hS)
          | (apply RO.op; apply OP.store hS; rfl; rfl; rfl; rfl; rfl; (focus ((repeat (first | apply Has.head | apply Take.head | apply Put.head | apply Has.tail | apply Take.tail | apply Put.tail)); done)); rfl; rfl; clear hS; intro w1 hS)
          | (apply RO.op; apply OP.buildSlice hS; rfl; rfl; (exact eqAuto); rfl; rfl; rfl; rfl; rfl; clear hS; intro b w1 hS)
          | (apply RO.op; apply OP.makeMap hS; rfl; clear hS; intro b w1 hS)
          | refine RO.yes rfl rfl ?_
          | refine RO.no rfl rfl rfl rfl ?_
          | refine RO.noUndef rfl rfl rfl ?_
          | refine RO.noNone rfl rfl rfl ?_
          | refine Run.cond_true rfl ?_
          | refine Run.cond_false rfl ?_
          | refine Run.skip ?_
          | refine Run.block ?_
          | refine Run.inBlock ?_
          | refine Run.exit rfl ?_
    by_cases k3 : (nd L i).k = 3
    · have hc : canR L K (can L K) i = ((ca && (cb || pb)) || (cb && (ca || pa))) := by unfold canR; rw [if_neg k9, if_neg k1, if_neg k2, if_pos k3, hca, hcb, hpa, hpb, Bool.or_comm pb, Bool.or_comm pa]
      rw [hc] at hceq
      rw [hceq] at mid
      have cs : kk = true ∨ (kk = false ∧ ca = true ∧ cb = true) ∨ (kk = false ∧ ca = true ∧ cb = false ∧ pb = true) ∨ (kk = false ∧ ca = true ∧ cb = false ∧ pb = false) ∨ (kk = false ∧ ca = false ∧ cb = false) ∨ (kk = false ∧ ca = false ∧ cb = true ∧ pa = true) ∨ (kk = false ∧ ca = false ∧ cb = true ∧ pa = false) := by
        cases kk <;> cases ca <;> cases cb <;> cases pa <;> cases pb <;> simp
      rcases cs with rfl | ⟨rfl, rfl, rfl⟩ | ⟨rfl, rfl, rfl, rfl⟩ | ⟨rfl, rfl, rfl, rfl⟩ | ⟨rfl, rfl, rfl⟩ | ⟨rfl, rfl, rfl, rfl⟩ | ⟨rfl, rfl, rfl, rfl⟩
      all_goals
        repeat' first
          | exact Run.weaken (by focus ((repeat (first | exact .nil | refine .cons rfl ?_)); done)) (mid _ (hS.picks (by focus ((repeat (first | apply Picks.all | apply Picks.nil | (refine Picks.cons (by repeat (first | apply Take.head | apply Take.tail)) ?_) | apply Picks.drop)); done))))
          | (refine RO.still (by apply Still.load; rfl; rfl; (exact Rd.any); exact fa) hS rfl ?_)
          | (refine RO.still (by apply Still.load; rfl; rfl; (exact Rd.any); exact fb) hS rfl ?_)
          | (refine RO.still (by apply Still.load; rfl; rfl; (exact Rd.any); exact fc) hS rfl ?_)
          | (apply RO.op; apply OP.callF; rfl; rfl; rfl; apply public_calls (x := (nd L i).b) g p2 hS; (exact Rd.any); (exact Rd.any); (exact Rd.any); exact fb; clear hS; rintro v w1 ⟨rfl, hS⟩; rw [hpb])
          | (apply RO.op; apply OP.callF; rfl; rfl; rfl; apply public_calls (x := (nd L i).a) g p1 hS; (exact Rd.any); (exact Rd.any); (exact Rd.any); exact fa; clear hS; rintro v w1 ⟨rfl, hS⟩; rw [hpa])
          | refine Run.seq ?_
          | refine Run.region ?_
          | (refine RO.split ?_ ?_ <;> intro hc <;> try (first | (exfalso; omega) | exact absurd rfl hc | exact Bool.noConfusion hc))
          | refine RO.nil ?_
          | refine RO.still (by exact Still.any) hS rfl ?_
          | (apply RO.op; apply OP.box hS; rfl; rfl; rfl; clear hS; intro b w1 hS)
          | (apply RO.op; apply OP.alloc hS; rfl; rfl; rfl; clear hS; intro b w1 hS)
          | (apply RO.op; apply OP.store hS; rfl; rfl; rfl; rfl; rfl; (focus ((repeat (first | apply Has.head | apply Take.head | apply Put.head | apply Has.tail | apply Take.tail | apply Put.tail)); done)); rfl; rfl; clear hS; intro w1 hS)
          | (apply RO.op; apply OP.buildSlice hS; rfl; rfl; (exact eqAuto); rfl; rfl; rfl; rfl; rfl; clear hS; intro b w1 hS)
          | (apply RO.op; apply OP.makeMap hS; rfl; clear hS; intro b w1 hS)
          | refine RO.yes rfl rfl ?_
          | refine RO.no rfl rfl rfl rfl ?_
          | refine RO.noUndef rfl rfl rfl ?_
          | refine RO.noNone rfl rfl rfl ?_
          | refine Run.cond_true rfl ?_
          | refine Run.cond_false rfl ?_
          | refine Run.skip ?_
          | refine Run.block ?_
          | refine Run.inBlock ?_
          | refine Run.exit rfl ?_
    by_cases k7 : (nd L i).k = 7
    · have hc : canR L K (can L K) i = (ca && cb && cc) := by unfold canR; rw [if_neg k9, if_neg k1, if_neg k2, if_neg k3, if_pos k7, hca, hcb, hcc]
      rw [hc] at hceq
      rw [hceq] at mid
      have cs : kk = true ∨ (kk = false ∧ ca = false) ∨ (kk = false ∧ ca = true ∧ cb = false) ∨ (kk = false ∧ ca = true ∧ cb = true) := by
        cases kk <;> cases ca <;> cases cb <;> simp
      rcases cs with rfl | ⟨rfl, rfl⟩ | ⟨rfl, rfl, rfl⟩ | ⟨rfl, rfl, rfl⟩
      rotate_right
      · cases cc
        all_goals
          repeat' first
            | exact Run.weaken (by focus ((repeat (first | exact .nil | refine .cons rfl ?_)); done)) (mid _ (hS.picks (by focus ((repeat (first | apply Picks.all | apply Picks.nil | (refine Picks.cons (by repeat (first | apply Take.head | apply Take.tail)) ?_) | apply Picks.drop)); done))))
            | (refine RO.still (by apply Still.load; rfl; rfl; (exact Rd.any); exact fa) hS rfl ?_)
            | (refine RO.still (by apply Still.load; rfl; rfl; (exact Rd.any); exact fb) hS rfl ?_)
            | (refine RO.still (by apply Still.load; rfl; rfl; (exact Rd.any); exact fc) hS rfl ?_)
            | (apply RO.op; apply OP.callF; rfl; rfl; rfl; apply public_calls (x := (nd L i).b) g p2 hS; (exact Rd.any); (exact Rd.any); (exact Rd.any); exact fb; clear hS; rintro v w1 ⟨rfl, hS⟩; rw [hpb])
            | (apply RO.op; apply OP.callF; rfl; rfl; rfl; apply public_calls (x := (nd L i).a) g p1 hS; (exact Rd.any); (exact Rd.any); (exact Rd.any); exact fa; clear hS; rintro v w1 ⟨rfl, hS⟩; rw [hpa])
            | refine Run.seq ?_
            | refine Run.region ?_
            | (refine RO.split ?_ ?_ <;> intro hc <;> try (first | (exfalso; omega) | exact absurd rfl hc | exact Bool.noConfusion hc))
            | refine RO.nil ?_
            | refine RO.still (by exact Still.any) hS rfl ?_
            | (apply RO.op; apply OP.box hS; rfl; rfl; rfl; clear hS; intro b w1 hS)
            | (apply RO.op; apply OP.alloc hS; rfl; rfl; rfl; clear hS; intro b w1 hS)
            | (apply RO.op; apply OP.store hS; rfl; rfl; rfl; rfl; rfl; (focus ((repeat (first | apply Has.head | apply Take.head | apply Put.head | apply Has.tail | apply Take.tail | apply Put.tail)); done)); rfl; rfl; clear hS; intro w1 hS)
            | (apply RO.op; apply OP.buildSlice hS; rfl; rfl; (exact eqAuto); rfl; rfl; rfl; rfl; rfl; clear hS; intro b w1 hS)
            | (apply RO.op; apply OP.makeMap hS; rfl; clear hS; intro b w1 hS)
            | refine RO.yes rfl rfl ?_
            | refine RO.no rfl rfl rfl rfl ?_
            | refine RO.noUndef rfl rfl rfl ?_
            | refine RO.noNone rfl rfl rfl ?_
            | refine Run.cond_true rfl ?_
            | refine Run.cond_false rfl ?_
            | refine Run.skip ?_
            | refine Run.block ?_
            | refine Run.inBlock ?_
            | refine Run.exit rfl ?_
      all_goals
        repeat' first
          | exact Run.weaken (by focus ((repeat (first | exact .nil | refine .cons rfl ?_)); done)) (mid _ (hS.picks (by focus ((repeat (first | apply Picks.all | apply Picks.nil | (refine Picks.cons (by repeat (first | apply Take.head | apply Take.tail)) ?_) | apply Picks.drop)); done))))
          | (refine RO.still (by apply Still.load; rfl; rfl; (exact Rd.any); exact fa) hS rfl ?_)
          | (refine RO.still (by apply Still.load; rfl; rfl; (exact Rd.any); exact fb) hS rfl ?_)
          | (refine RO.still (by apply Still.load; rfl; rfl; (exact Rd.any); exact fc) hS rfl ?_)
          | (apply RO.op; apply OP.callF; rfl; rfl; rfl; apply public_calls (x := (nd L i).b) g p2 hS; (exact Rd.any); (exact Rd.any); (exact Rd.any); exact fb; clear hS; rintro v w1 ⟨rfl, hS⟩; rw [hpb])
          | (apply RO.op; apply OP.callF; rfl; rfl; rfl; apply public_calls (x := (nd L i).a) g p1 hS; (exact Rd.any); (exact Rd.any); (exact Rd.any); exact fa; clear hS; rintro v w1 ⟨rfl, hS⟩; rw [hpa])
          | refine Run.seq ?_
          | refine Run.region ?_
          | (refine RO.split ?_ ?_ <;> intro hc <;> try (first | (exfalso; omega) | exact absurd rfl hc | exact Bool.noConfusion hc))
          | refine RO.nil ?_
          | refine RO.still (by exact Still.any) hS rfl ?_
          | (apply RO.op; apply OP.box hS; rfl; rfl; rfl; clear hS; intro b w1 hS)
          | (apply RO.op; apply OP.alloc hS; rfl; rfl; rfl; clear hS; intro b w1 hS)
          | (apply RO.op; apply OP.store hS; rfl; rfl; rfl; rfl; rfl; (focus ((repeat (first | apply Has.head | apply Take.head | apply Put.head | apply Has.tail | apply Take.tail | apply Put.tail)); done)); rfl; rfl; clear hS; intro w1 hS)
          | (apply RO.op; apply OP.buildSlice hS; rfl; rfl; (exact eqAuto); rfl; rfl; rfl; rfl; rfl; clear hS; intro b w1 hS)
          | (apply RO.op; apply OP.makeMap hS; rfl; clear hS; intro b w1 hS)
          | refine RO.yes rfl rfl ?_
          | refine RO.no rfl rfl rfl rfl ?_
          | refine RO.noUndef rfl rfl rfl ?_
          | refine RO.noNone rfl rfl rfl ?_
          | refine Run.cond_true rfl ?_
          | refine Run.cond_false rfl ?_
          | refine Run.skip ?_
          | refine Run.block ?_
          | refine Run.inBlock ?_
          | refine Run.exit rfl ?_
    · have hc : canR L K (can L K) i = (ca && cb) := by unfold canR; rw [if_neg k9, if_neg k1, if_neg k2, if_neg k3, if_neg k7, hca, hcb]
      rw [hc] at hceq
      rw [hceq] at mid
      have k90 : ¬ (nd L i).k = 0 := fun h => k9 (.inl h)
      have k99 : ¬ (nd L i).k = 9 := fun h => k9 (.inr h)
      have cs : kk = true ∨ (kk = false ∧ ca = false) ∨ (kk = false ∧ ca = true) := by
        cases kk <;> cases ca <;> simp
      rcases cs with rfl | ⟨rfl, rfl⟩ | ⟨rfl, rfl⟩
      all_goals
        try cases cb
        all_goals
          repeat' first
            | exact Run.weaken (by focus ((repeat (first | exact .nil | refine .cons rfl ?_)); done)) (mid _ (hS.picks (by focus ((repeat (first | apply Picks.all | apply Picks.nil | (refine Picks.cons (by repeat (first | apply Take.head | apply Take.tail)) ?_) | apply Picks.drop)); done))))
            | (refine RO.still (by apply Still.load; rfl; rfl; (exact Rd.any); exact fa) hS rfl ?_)
            | (refine RO.still (by apply Still.load; rfl; rfl; (exact Rd.any); exact fb) hS rfl ?_)
            | (refine RO.still (by apply Still.load; rfl; rfl; (exact Rd.any); exact fc) hS rfl ?_)
            | (apply RO.op; apply OP.callF; rfl; rfl; rfl; apply public_calls (x := (nd L i).b) g p2 hS; (exact Rd.any); (exact Rd.any); (exact Rd.any); exact fb; clear hS; rintro v w1 ⟨rfl, hS⟩; rw [hpb])
            | (apply RO.op; apply OP.callF; rfl; rfl; rfl; apply public_calls (x := (nd L i).a) g p1 hS; (exact Rd.any); (exact Rd.any); (exact Rd.any); exact fa; clear hS; rintro v w1 ⟨rfl, hS⟩; rw [hpa])
            | refine Run.seq ?_
            | refine Run.region ?_
            | (refine RO.split ?_ ?_ <;> intro hc <;> try (first | (exfalso; omega) | exact absurd rfl hc | exact Bool.noConfusion hc))
            | refine RO.nil ?_
            | refine RO.still (by exact Still.any) hS rfl ?_
            | (apply RO.op; apply OP.box hS; rfl; rfl; rfl; clear hS; intro b w1 hS)
            | (apply RO.op; apply OP.alloc hS; rfl; rfl; rfl; clear hS; intro b w1 hS)
            | (apply RO.op; apply OP.store hS; rfl; rfl; rfl; rfl; rfl; (focus ((repeat (first | apply Has.head | apply Take.head | apply Put.head | apply Has.tail | apply Take.tail | apply Put.tail)); done)); rfl; rfl; clear hS; intro w1 hS)
            | (apply RO.op; apply OP.buildSlice hS; rfl; rfl; (exact eqAuto); rfl; rfl; rfl; rfl; rfl; clear hS; intro b w1 hS)
            | (apply RO.op; apply OP.makeMap hS; rfl; clear hS; intro b w1 hS)
            | refine RO.yes rfl rfl ?_
            | refine RO.no rfl rfl rfl rfl ?_
            | refine RO.noUndef rfl rfl rfl ?_
            | refine RO.noNone rfl rfl rfl ?_
            | refine Run.cond_true rfl ?_
            | refine Run.cond_false rfl ?_
            | refine Run.skip ?_
            | refine Run.block ?_
            | refine Run.inBlock ?_
            | refine Run.exit rfl ?_
  · obtain rfl : i = L.length := by omega
    rw [canTo_all] at hS
    repeat' first
      | refine Run.seq ?_
      | refine Run.region ?_
      | (refine RO.split ?_ ?_ <;> intro hc <;> try (first | (exfalso; omega) | exact absurd rfl hc | exact Bool.noConfusion hc))
      | refine RO.nil ?_
      | refine RO.still (by exact Still.any) hS rfl ?_
      | (apply RO.op; apply OP.box hS; rfl; rfl; rfl; clear hS; intro b w1 hS)
      | (apply RO.op; apply OP.alloc hS; rfl; rfl; rfl; clear hS; intro b w1 hS)
      | (apply RO.op; apply OP.store hS; rfl; rfl; rfl; rfl; rfl; (focus ((repeat (first | apply Has.head | apply Take.head | apply Put.head | apply Has.tail | apply Take.tail | apply Put.tail)); done)); rfl; rfl; clear hS; intro w1 hS)
      | (apply RO.op; apply OP.buildSlice hS; rfl; rfl; (exact eqAuto); rfl; rfl; rfl; rfl; rfl; clear hS; intro b w1 hS)
      | (apply RO.op; apply OP.makeMap hS; rfl; clear hS; intro b w1 hS)
      | refine RO.yes rfl rfl ?_
      | refine RO.no rfl rfl rfl rfl ?_
      | refine RO.noUndef rfl rfl rfl ?_
      | refine RO.noNone rfl rfl rfl ?_
      | refine Run.cond_true rfl ?_
      | refine Run.cond_false rfl ?_
      | refine Run.skip ?_
      | refine Run.block ?_
      | refine Run.inBlock ?_
      | refine Run.exit rfl ?_
    refine Run.ret Try.func41 rfl (.tmp rfl .nil) ?_
    exact ⟨_, rfl, hS.picks (by focus ((repeat (first | apply Picks.all | apply Picks.nil | (refine Picks.cons (by repeat (first | apply Take.head | apply Take.tail)) ?_) | apply Picks.drop)); done))⟩
end
end Go.Proofs.Ytcigkkedffggiaa
