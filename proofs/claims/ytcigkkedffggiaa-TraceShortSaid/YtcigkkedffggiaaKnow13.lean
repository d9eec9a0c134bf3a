/-
  The document's answer for the layer of what is known: Close, Learn.
-/
import Derived.Test.YtcigkkedffggiaaKnow12
namespace Go.Proofs.Ytcigkkedffggiaa
set_option maxRecDepth 8000
set_option linter.unusedSimpArgs false
set_option linter.unusedVariables false
open Go Go.RowKit

theorem learnAll_snoc (L : List Nd) (l : List Int) (x : Int) (K : Int → Bool) : learnAll L (l ++ [x]) K = if has L x = true then cl L (ins (learnAll L l K) x) else learnAll L l K := by
  unfold learnAll; rw [List.foldl_append]; rfl
theorem learnAll_has {lim : Nat} {L : List Nd} (g : Good lim L) {K : Int → Bool} (hh : ∀ y, K y = true → has L y = true) (l : List Int) : ∀ y, learnAll L l K y = true → has L y = true := by
  induction l generalizing K with
  | nil => exact hh
  | cons x l ih =>
    unfold learnAll
    rw [List.foldl_cons]
    refine ih (K := if has L x = true then cl L (ins K x) else K) (fun y hy => ?_)
    by_cases hx : has L x = true
    · rw [if_pos hx] at hy
      refine cl_has g (fun z hz => ?_) hy
      rcases ins_iff.1 hz with q | rfl
      · exact hh z q
      · exact hx
    · rw [if_neg hx] at hy; exact hh y hy
theorem rnd_yes {L : List Nd} {K : Int → Bool} {i : Nat} (h : rnd L K i (i : Nat) = true) : rnd L K (i + 1) = insAll (rnd L K i) (comesOf L K (i : Nat)) := by
  conv => lhs; unfold rnd
  rw [if_pos h]
theorem rnd_no {L : List Nd} {K : Int → Bool} {i : Nat} (h : rnd L K i (i : Nat) = false) : rnd L K (i + 1) = rnd L K i := by
  conv => lhs; unfold rnd
  rw [if_neg (by rw [h]; simp)]

section
variable {we w : World} {ρ : List (Nat × Obj)} {σ F : List HP} {lim lim' r cap : Nat} {L : List Nd} {K : Int → Bool} {spare : List Value}

theorem boolsL_ins {L : List Nd} {K : Int → Bool} {x : Int} {spare : List Value} (h : has L x = true) :
    (boolsL L K ++ spare).take x.toNat ++ [.bool true] ++ (boolsL L K ++ spare).drop (x.toNat + 1) = boolsL L (ins K x) ++ spare := by rw [boolsL_put h, upd_true]
theorem boolsL_ble {L : List Nd} {K : Int → Bool} {x : Int} {spare : List Value} (h : has L x = true) : Nat.ble (x.toNat + 1) (boolsL L K ++ spare).length = true := by
  have := has_iff.1 h
  rw [List.length_append, boolsL_length]
  exact Nat.ble_eq_true_of_le (by omega)

set_option maxHeartbeats 16000000 in
theorem refClose {bk ck : Nat} {spk : List Value} (g : Good lim L) (hh : ∀ y, K y = true → has L y = true) (hS : St we ρ σ w) (hr : Rd ρ σ r (.cells (flat L ++ spare).toArray 58 (0, 0)))
    (hk : Rd ρ σ bk (.cells (boolsL L K ++ spk).toArray 4 (0, 0))) :
    Cl Try.prog 52 [raV lim' r L.length cap, .slice (some ⟨bk, 0, none⟩) L.length ck] w fun v w' => ∃ b cb sp, v = .slice (some ⟨b, 0, none⟩) L.length cb ∧ St we ρ (Row b (boolsL L (cl L K) ++ sp) 4 :: σ) w' := by
  have hlim := g.lim
  have hlen := g.len
  have hpos : 0 < L.length := g.wf.pos
  refine Run.calls2 (n := 73) Try.func52 rfl rfl rfl ?_
  repeat' first
    | (apply RO.op; apply OP.append (size := 1) (bytes := 1) (k := L.length) (news := boolsL L K) (vec_shut (size := 1) (xs := []) (l := []) (cap := 0) hS (Nat.le_refl _) (Nat.zero_le _) rfl rfl); rfl; rfl; rfl; rfl; rfl; rfl; rfl; rfl; exact (by omega); exact .head; (exact Rd.any); (exact (by rw [List.drop_zero, Nat.mul_one, ← boolsL_length L K]; exact List.take_left)); (exact (by rw [boolsL_length, Nat.mul_one])); exact boolsL_one; (exact (by unfold maxLen; omega)); (exact (by omega)); rfl
       clear hS; intro v' w1 hS)
    | refine Run.seq ?_
    | refine Run.region ?_
    | (refine RO.split ?_ ?_ <;> intro hc <;> try (first | (exfalso; omega) | exact absurd rfl hc | exact Bool.noConfusion hc))
    | refine RO.nil ?_
    | refine RO.still (by exact Still.any) hS rfl ?_
    | (apply RO.op; apply OP.box hS; rfl; rfl; rfl; clear hS; intro b w1 hS)
    | (apply RO.op; apply OP.alloc hS; rfl; rfl; rfl; clear hS; intro b w1 hS)
    | (apply RO.op; apply OP.store hS; rfl; rfl; rfl; rfl; rfl; (focus ((repeat (first | apply Has.head | apply Take.head | apply Put.head | apply Has.tail | apply Take.tail | apply Put.tail)); done)); rfl; rfl; clear hS; intro w1 hS)
    | (apply RO.op; apply OP.buildSlice hS; rfl; rfl; (exact eqAuto); rfl; rfl; rfl; rfl; rfl; clear hS; intro b w1 hS)
    | (apply RO.op; apply OP.makeMap hS; rfl; clear hS; intro b w1 hS)
    | refine RO.yes rfl rfl ?_
    | refine RO.no rfl rfl rfl rfl ?_
    | refine RO.noUndef rfl rfl rfl ?_
    | refine RO.noNone rfl rfl rfl ?_
    | refine Run.cond_true rfl ?_
    | refine Run.cond_false rfl ?_
    | refine Run.skip ?_
    | refine Run.block ?_
    | refine Run.inBlock ?_
    | refine Run.exit rfl ?_
  rw [Nat.zero_add, List.nil_append] at hS
  obtain ⟨_, ⟨_, h0, _⟩ | ⟨g0, cg, sp, rfl, c1, c2, c3, hS2⟩⟩ := vec_open hS
  · omega
  clear hS
  have hS := hS2
  clear hS2
  rename_i b2 _ _ _
  refine Run.while (fun m : Nat => [(2, .pointer (some ⟨b2, 0, none⟩)), (5, .slice (some ⟨g0, 0, none⟩) L.length cg), (6, .int .i64 m)])
    (fun m w => m ≤ L.length ∧ St we ρ (Row g0 (boolsL L (rnds L K m) ++ sp) 4 :: Row b2 [.int .i64 lim', .slice (some ⟨r, 0, none⟩) L.length cap] 48 :: σ) w) (fun m => L.length - m) 0
    ⟨by omega, hS.picks (by focus ((repeat (first | apply Picks.all | apply Picks.nil | (refine Picks.cons (by repeat (first | apply Take.head | apply Take.tail)) ?_) | apply Picks.drop)); done))⟩ (by focus ((repeat (first | exact .nil | refine .cons rfl ?_)); done)) ?_
  clear hS
  rintro m w ⟨hm, hS⟩ ih
  by_cases hlt : m < L.length
  · have hhm := rnds_has g hh m
    have hnext : rnds L K (m + 1) = rnd L (rnds L K m) L.length := rfl
    generalize rnds L K m = Km at hS hhm hnext
    repeat' first
      | (apply RO.op; apply OP.callF; rfl; rfl; rfl; apply refCan (K := Km) (spk := sp) g hS; (exact Rd.any); (exact Rd.any); clear hS; rintro v w1 ⟨bc, rfl, hS⟩)
      | refine Run.seq ?_
      | refine Run.region ?_
      | (refine RO.split ?_ ?_ <;> intro hc <;> try (first | (exfalso; omega) | exact absurd rfl hc | exact Bool.noConfusion hc))
      | refine RO.nil ?_
      | refine RO.still (by exact Still.any) hS rfl ?_
      | (apply RO.op; apply OP.box hS; rfl; rfl; rfl; clear hS; intro b w1 hS)
      | (apply RO.op; apply OP.alloc hS; rfl; rfl; rfl; clear hS; intro b w1 hS)
      | (apply RO.op; apply OP.store hS; rfl; rfl; rfl; rfl; rfl; (focus ((repeat (first | apply Has.head | apply Take.head | apply Put.head | apply Has.tail | apply Take.tail | apply Put.tail)); done)); rfl; rfl; clear hS; intro w1 hS)
      | (apply RO.op; apply OP.buildSlice hS; rfl; rfl; (exact eqAuto); rfl; rfl; rfl; rfl; rfl; clear hS; intro b w1 hS)
      | (apply RO.op; apply OP.makeMap hS; rfl; clear hS; intro b w1 hS)
      | refine RO.yes rfl rfl ?_
      | refine RO.no rfl rfl rfl rfl ?_
      | refine RO.noUndef rfl rfl rfl ?_
      | refine RO.noNone rfl rfl rfl ?_
      | refine Run.cond_true rfl ?_
      | refine Run.cond_false rfl ?_
      | refine Run.skip ?_
      | refine Run.block ?_
      | refine Run.inBlock ?_
      | refine Run.exit rfl ?_
    refine Run.while (fun i : Nat => [(2, .pointer (some ⟨b2, 0, none⟩)), (5, .slice (some ⟨g0, 0, none⟩) L.length cg), (6, .int .i64 m), (7, .slice (some ⟨bc, 0, none⟩) L.length L.length), (8, .int .i64 i)])
      (fun i w => i ≤ L.length ∧ St we ρ (Row g0 (boolsL L (rnd L Km i) ++ sp) 4 :: Row bc (boolsL L (can L Km)) 4 :: Row b2 [.int .i64 lim', .slice (some ⟨r, 0, none⟩) L.length cap] 48 :: σ) w) (fun i => L.length - i) 0
      ⟨by omega, hS.picks (by focus ((repeat (first | apply Picks.all | apply Picks.nil | (refine Picks.cons (by repeat (first | apply Take.head | apply Take.tail)) ?_) | apply Picks.drop)); done))⟩ (by focus ((repeat (first | exact .nil | refine .cons rfl ?_)); done)) ?_
    clear hS
    rintro i w ⟨hi, hS⟩ ih2
    by_cases hlt2 : i < L.length
    · have hih : has L (i : Int) = true := has_of hlt2
      have fn : ((flat L ++ spare).drop (i * 5)).take 5 = ndL (nd L i) := flat_take (x := (i : Int)) hih
      have fk : (boolsL L (rnd L Km i) ++ sp)[i]? = some (.bool (rnd L Km i i)) := boolsL_get (x := (i : Int)) hih
      cases hkk : rnd L Km i (i : Nat) with
      | false =>
        rw [hkk] at fk
        rw [← rnd_no hkk] at hS fk
        repeat' first
          | (refine RO.still (by apply Still.load; rfl; rfl; (exact Rd.any); exact fk) hS rfl ?_)
          | (refine RO.still (by apply Still.loadAgg; rfl; rfl; (exact eqAuto); (exact Rd.any); exact fn; rfl) hS rfl ?_)
          | refine Run.seq ?_
          | refine Run.region ?_
          | (refine RO.split ?_ ?_ <;> intro hc <;> try (first | (exfalso; omega) | exact absurd rfl hc | exact Bool.noConfusion hc))
          | refine RO.nil ?_
          | refine RO.still (by exact Still.any) hS rfl ?_
          | (apply RO.op; apply OP.box hS; rfl; rfl; rfl; clear hS; intro b w1 hS)
          | (apply RO.op; apply OP.alloc hS; rfl; rfl; rfl; clear hS; intro b w1 hS)
          | (apply RO.op; apply OP.store hS; rfl; rfl; rfl; rfl; rfl; (focus ((repeat (first | apply Has.head | apply Take.head | apply Put.head | apply Has.tail | apply Take.tail | apply Put.tail)); done)); rfl; rfl; clear hS; intro w1 hS)
          | (apply RO.op; apply OP.buildSlice hS; rfl; rfl; (exact eqAuto); rfl; rfl; rfl; rfl; rfl; clear hS; intro b w1 hS)
          | (apply RO.op; apply OP.makeMap hS; rfl; clear hS; intro b w1 hS)
          | refine RO.yes rfl rfl ?_
          | refine RO.no rfl rfl rfl rfl ?_
          | refine RO.noUndef rfl rfl rfl ?_
          | refine RO.noNone rfl rfl rfl ?_
          | refine Run.cond_true rfl ?_
          | refine Run.cond_false rfl ?_
          | refine Run.skip ?_
          | refine Run.block ?_
          | refine Run.inBlock ?_
          | refine Run.exit rfl ?_
        refine Run.weaken (by focus ((repeat (first | exact .nil | refine .cons rfl ?_)); done)) (ih2 (i + 1) _ ⟨by omega, hS.picks (by focus ((repeat (first | apply Picks.all | apply Picks.nil | (refine Picks.cons (by repeat (first | apply Take.head | apply Take.tail)) ?_) | apply Picks.drop)); done))⟩ (by omega))
      | true =>
        rw [hkk] at fk
        have hyes := rnd_yes hkk
        by_cases k8 : (nd L i).k = 8
        · rcases nd_parts g hih with h0 | ⟨p1, p2, p3, q1, q2, q3⟩
          · omega
          have r1 := has_iff.1 p1
          have r2 := has_iff.1 p2
          have hc : comesOf L Km (i : Nat) = [(nd L i).a, (nd L i).b] := by unfold comesOf; rw [if_pos k8]
          rw [hc] at hyes
          replace hyes : rnd L Km (i + 1) = ins (ins (rnd L Km i) (nd L i).a) (nd L i).b := hyes
          have g1 := boolsL_ins (K := rnd L Km i) (spare := sp) p1
          have g2 := boolsL_ins (K := ins (rnd L Km i) (nd L i).a) (spare := sp) p2
          have e1 := boolsL_ble (K := rnd L Km i) (spare := sp) p1
          have e2 := boolsL_ble (K := ins (rnd L Km i) (nd L i).a) (spare := sp) p2
          have fk2 : (boolsL L (ins (ins (rnd L Km i) (nd L i).a) (nd L i).b) ++ sp)[i]? = some (.bool true) := by
            have := boolsL_get (K := ins (ins (rnd L Km i) (nd L i).a) (nd L i).b) (spare := sp) hih
            rwa [ins_iff.2 (.inl (ins_iff.2 (.inl hkk)))] at this
          repeat' first
            | (refine RO.still (by apply Still.load; rfl; rfl; (exact Rd.any); exact fk) hS rfl ?_)
            | (refine RO.still (by apply Still.loadAgg; rfl; rfl; (exact eqAuto); (exact Rd.any); exact fn; rfl) hS rfl ?_)
            | (refine RO.still (by apply Still.load; rfl; rfl; (exact Rd.any); exact fk2) hS rfl ?_)
            | (apply RO.op; apply OP.store hS; rfl; rfl; rfl; rfl; rfl; (focus ((repeat (first | apply Has.head | apply Take.head | apply Put.head | apply Has.tail | apply Take.tail | apply Put.tail)); done)); exact e1; exact g1; clear hS; intro w1 hS)
            | (apply RO.op; apply OP.store hS; rfl; rfl; rfl; rfl; rfl; (focus ((repeat (first | apply Has.head | apply Take.head | apply Put.head | apply Has.tail | apply Take.tail | apply Put.tail)); done)); exact e2; exact g2; clear hS; intro w1 hS)
            | refine Run.seq ?_
            | refine Run.region ?_
            | (refine RO.split ?_ ?_ <;> intro hc <;> try (first | (exfalso; omega) | exact absurd rfl hc | exact Bool.noConfusion hc))
            | refine RO.nil ?_
            | refine RO.still (by exact Still.any) hS rfl ?_
            | (apply RO.op; apply OP.box hS; rfl; rfl; rfl; clear hS; intro b w1 hS)
            | (apply RO.op; apply OP.alloc hS; rfl; rfl; rfl; clear hS; intro b w1 hS)
            | (apply RO.op; apply OP.store hS; rfl; rfl; rfl; rfl; rfl; (focus ((repeat (first | apply Has.head | apply Take.head | apply Put.head | apply Has.tail | apply Take.tail | apply Put.tail)); done)); rfl; rfl; clear hS; intro w1 hS)
            | (apply RO.op; apply OP.buildSlice hS; rfl; rfl; (exact eqAuto); rfl; rfl; rfl; rfl; rfl; clear hS; intro b w1 hS)
            | (apply RO.op; apply OP.makeMap hS; rfl; clear hS; intro b w1 hS)
            | refine RO.yes rfl rfl ?_
            | refine RO.no rfl rfl rfl rfl ?_
            | refine RO.noUndef rfl rfl rfl ?_
            | refine RO.noNone rfl rfl rfl ?_
            | refine Run.cond_true rfl ?_
            | refine Run.cond_false rfl ?_
            | refine Run.skip ?_
            | refine Run.block ?_
            | refine Run.inBlock ?_
            | refine Run.exit rfl ?_
          rw [← hyes] at hS
          refine Run.weaken (by focus ((repeat (first | exact .nil | refine .cons rfl ?_)); done)) (ih2 (i + 1) _ ⟨by omega, hS.picks (by focus ((repeat (first | apply Picks.all | apply Picks.nil | (refine Picks.cons (by repeat (first | apply Take.head | apply Take.tail)) ?_) | apply Picks.drop)); done))⟩ (by omega))
        by_cases k7 : (nd L i).k = 7
        · rcases nd_parts g hih with h0 | ⟨p1, p2, p3, q1, q2, q3⟩
          · omega
          have r1 := has_iff.1 p1
          have r3 := has_iff.1 p3
          have fa : (boolsL L (can L Km))[(nd L i).a.toNat]? = some (.bool (can L Km (nd L i).a)) := by
            have := boolsL_get (K := can L Km) (spare := []) p1
            rwa [List.append_nil] at this
          cases hca : can L Km (nd L i).a with
          | true =>
            rw [hca] at fa
            have hc : comesOf L Km (i : Nat) = [(nd L i).c] := by unfold comesOf; rw [if_neg k8, if_pos ⟨k7, hca⟩]
            rw [hc] at hyes
            replace hyes : rnd L Km (i + 1) = ins (rnd L Km i) (nd L i).c := hyes
            have g1 := boolsL_ins (K := rnd L Km i) (spare := sp) p3
            have e1 := boolsL_ble (K := rnd L Km i) (spare := sp) p3
            repeat' first
              | (refine RO.still (by apply Still.load; rfl; rfl; (exact Rd.any); exact fk) hS rfl ?_)
              | (refine RO.still (by apply Still.loadAgg; rfl; rfl; (exact eqAuto); (exact Rd.any); exact fn; rfl) hS rfl ?_)
              | (refine RO.still (by apply Still.load; rfl; rfl; (exact Rd.any); exact fa) hS rfl ?_)
              | (apply RO.op; apply OP.store hS; rfl; rfl; rfl; rfl; rfl; (focus ((repeat (first | apply Has.head | apply Take.head | apply Put.head | apply Has.tail | apply Take.tail | apply Put.tail)); done)); exact e1; exact g1; clear hS; intro w1 hS)
              | refine Run.seq ?_
              | refine Run.region ?_
              | (refine RO.split ?_ ?_ <;> intro hc <;> try (first | (exfalso; omega) | exact absurd rfl hc | exact Bool.noConfusion hc))
              | refine RO.nil ?_
              | refine RO.still (by exact Still.any) hS rfl ?_
              | (apply RO.op; apply OP.box hS; rfl; rfl; rfl; clear hS; intro b w1 hS)
              | (apply RO.op; apply OP.alloc hS; rfl; rfl; rfl; clear hS; intro b w1 hS)
              | (apply RO.op; apply OP.store hS; rfl; rfl; rfl; rfl; rfl; (focus ((repeat (first | apply Has.head | apply Take.head | apply Put.head | apply Has.tail | apply Take.tail | apply Put.tail)); done)); rfl; rfl; clear hS; intro w1 hS)
              | (apply RO.op; apply OP.buildSlice hS; rfl; rfl; (exact eqAuto); rfl; rfl; rfl; rfl; rfl; clear hS; intro b w1 hS)
              | (apply RO.op; apply OP.makeMap hS; rfl; clear hS; intro b w1 hS)
              | refine RO.yes rfl rfl ?_
              | refine RO.no rfl rfl rfl rfl ?_
              | refine RO.noUndef rfl rfl rfl ?_
              | refine RO.noNone rfl rfl rfl ?_
              | refine Run.cond_true rfl ?_
              | refine Run.cond_false rfl ?_
              | refine Run.skip ?_
              | refine Run.block ?_
              | refine Run.inBlock ?_
              | refine Run.exit rfl ?_
            rw [← hyes] at hS
            refine Run.weaken (by focus ((repeat (first | exact .nil | refine .cons rfl ?_)); done)) (ih2 (i + 1) _ ⟨by omega, hS.picks (by focus ((repeat (first | apply Picks.all | apply Picks.nil | (refine Picks.cons (by repeat (first | apply Take.head | apply Take.tail)) ?_) | apply Picks.drop)); done))⟩ (by omega))
          | false =>
            rw [hca] at fa
            have hc : comesOf L Km (i : Nat) = [] := by unfold comesOf; rw [if_neg k8, if_neg (fun h => by rw [hca] at h; cases h.2)]
            rw [hc] at hyes
            replace hyes : rnd L Km (i + 1) = rnd L Km i := hyes
            repeat' first
              | (refine RO.still (by apply Still.load; rfl; rfl; (exact Rd.any); exact fk) hS rfl ?_)
              | (refine RO.still (by apply Still.loadAgg; rfl; rfl; (exact eqAuto); (exact Rd.any); exact fn; rfl) hS rfl ?_)
              | (refine RO.still (by apply Still.load; rfl; rfl; (exact Rd.any); exact fa) hS rfl ?_)
              | refine Run.seq ?_
              | refine Run.region ?_
              | (refine RO.split ?_ ?_ <;> intro hc <;> try (first | (exfalso; omega) | exact absurd rfl hc | exact Bool.noConfusion hc))
              | refine RO.nil ?_
              | refine RO.still (by exact Still.any) hS rfl ?_
              | (apply RO.op; apply OP.box hS; rfl; rfl; rfl; clear hS; intro b w1 hS)
              | (apply RO.op; apply OP.alloc hS; rfl; rfl; rfl; clear hS; intro b w1 hS)
              | (apply RO.op; apply OP.store hS; rfl; rfl; rfl; rfl; rfl; (focus ((repeat (first | apply Has.head | apply Take.head | apply Put.head | apply Has.tail | apply Take.tail | apply Put.tail)); done)); rfl; rfl; clear hS; intro w1 hS)
              | (apply RO.op; apply OP.buildSlice hS; rfl; rfl; (exact eqAuto); rfl; rfl; rfl; rfl; rfl; clear hS; intro b w1 hS)
              | (apply RO.op; apply OP.makeMap hS; rfl; clear hS; intro b w1 hS)
              | refine RO.yes rfl rfl ?_
              | refine RO.no rfl rfl rfl rfl ?_
              | refine RO.noUndef rfl rfl rfl ?_
              | refine RO.noNone rfl rfl rfl ?_
              | refine Run.cond_true rfl ?_
              | refine Run.cond_false rfl ?_
              | refine Run.skip ?_
              | refine Run.block ?_
              | refine Run.inBlock ?_
              | refine Run.exit rfl ?_
            rw [← hyes] at hS
            refine Run.weaken (by focus ((repeat (first | exact .nil | refine .cons rfl ?_)); done)) (ih2 (i + 1) _ ⟨by omega, hS.picks (by focus ((repeat (first | apply Picks.all | apply Picks.nil | (refine Picks.cons (by repeat (first | apply Take.head | apply Take.tail)) ?_) | apply Picks.drop)); done))⟩ (by omega))
        · have hc : comesOf L Km (i : Nat) = [] := by unfold comesOf; rw [if_neg k8, if_neg (fun h => k7 h.1)]
          rw [hc] at hyes
          replace hyes : rnd L Km (i + 1) = rnd L Km i := hyes
          repeat' first
            | (refine RO.still (by apply Still.load; rfl; rfl; (exact Rd.any); exact fk) hS rfl ?_)
            | (refine RO.still (by apply Still.loadAgg; rfl; rfl; (exact eqAuto); (exact Rd.any); exact fn; rfl) hS rfl ?_)
            | refine Run.seq ?_
            | refine Run.region ?_
            | (refine RO.split ?_ ?_ <;> intro hc <;> try (first | (exfalso; omega) | exact absurd rfl hc | exact Bool.noConfusion hc))
            | refine RO.nil ?_
            | refine RO.still (by exact Still.any) hS rfl ?_
            | (apply RO.op; apply OP.box hS; rfl; rfl; rfl; clear hS; intro b w1 hS)
            | (apply RO.op; apply OP.alloc hS; rfl; rfl; rfl; clear hS; intro b w1 hS)
            | (apply RO.op; apply OP.store hS; rfl; rfl; rfl; rfl; rfl; (focus ((repeat (first | apply Has.head | apply Take.head | apply Put.head | apply Has.tail | apply Take.tail | apply Put.tail)); done)); rfl; rfl; clear hS; intro w1 hS)
            | (apply RO.op; apply OP.buildSlice hS; rfl; rfl; (exact eqAuto); rfl; rfl; rfl; rfl; rfl; clear hS; intro b w1 hS)
            | (apply RO.op; apply OP.makeMap hS; rfl; clear hS; intro b w1 hS)
            | refine RO.yes rfl rfl ?_
            | refine RO.no rfl rfl rfl rfl ?_
            | refine RO.noUndef rfl rfl rfl ?_
            | refine RO.noNone rfl rfl rfl ?_
            | refine Run.cond_true rfl ?_
            | refine Run.cond_false rfl ?_
            | refine Run.skip ?_
            | refine Run.block ?_
            | refine Run.inBlock ?_
            | refine Run.exit rfl ?_
          rw [← hyes] at hS
          refine Run.weaken (by focus ((repeat (first | exact .nil | refine .cons rfl ?_)); done)) (ih2 (i + 1) _ ⟨by omega, hS.picks (by focus ((repeat (first | apply Picks.all | apply Picks.nil | (refine Picks.cons (by repeat (first | apply Take.head | apply Take.tail)) ?_) | apply Picks.drop)); done))⟩ (by omega))
    · obtain rfl : i = L.length := by omega
      rw [← hnext] at hS
      repeat' first
        | refine Run.seq ?_
        | refine Run.region ?_
        | (refine RO.split ?_ ?_ <;> intro hc <;> try (first | (exfalso; omega) | exact absurd rfl hc | exact Bool.noConfusion hc))
        | refine RO.nil ?_
        | refine RO.still (by exact Still.any) hS rfl ?_
        | (apply RO.op; apply OP.box hS; rfl; rfl; rfl; clear hS; intro b w1 hS)
        | (apply RO.op; apply OP.alloc hS; rfl; rfl; rfl; clear hS; intro b w1 hS)
        | (apply RO.op; apply OP.store hS; rfl; rfl; rfl; rfl; rfl; (focus ((repeat (first | apply Has.head | apply Take.head | apply Put.head | apply Has.tail | apply Take.tail | apply Put.tail)); done)); rfl; rfl; clear hS; intro w1 hS)
        | (apply RO.op; apply OP.buildSlice hS; rfl; rfl; (exact eqAuto); rfl; rfl; rfl; rfl; rfl; clear hS; intro b w1 hS)
        | (apply RO.op; apply OP.makeMap hS; rfl; clear hS; intro b w1 hS)
        | refine RO.yes rfl rfl ?_
        | refine RO.no rfl rfl rfl rfl ?_
        | refine RO.noUndef rfl rfl rfl ?_
        | refine RO.noNone rfl rfl rfl ?_
        | refine Run.cond_true rfl ?_
        | refine Run.cond_false rfl ?_
        | refine Run.skip ?_
        | refine Run.block ?_
        | refine Run.inBlock ?_
        | refine Run.exit rfl ?_
      refine Run.weaken (by focus ((repeat (first | exact .nil | refine .cons rfl ?_)); done)) (ih (m + 1) _ ⟨by omega, hS.picks (by focus ((repeat (first | apply Picks.all | apply Picks.nil | (refine Picks.cons (by repeat (first | apply Take.head | apply Take.tail)) ?_) | apply Picks.drop)); done))⟩ (by omega))
  · obtain rfl : m = L.length := by omega
    rw [rnds_cl g hh] at hS
    repeat' first
      | refine Run.seq ?_
      | refine Run.region ?_
      | (refine RO.split ?_ ?_ <;> intro hc <;> try (first | (exfalso; omega) | exact absurd rfl hc | exact Bool.noConfusion hc))
      | refine RO.nil ?_
      | refine RO.still (by exact Still.any) hS rfl ?_
      | (apply RO.op; apply OP.box hS; rfl; rfl; rfl; clear hS; intro b w1 hS)
      | (apply RO.op; apply OP.alloc hS; rfl; rfl; rfl; clear hS; intro b w1 hS)
      | (apply RO.op; apply OP.store hS; rfl; rfl; rfl; rfl; rfl; (focus ((repeat (first | apply Has.head | apply Take.head | apply Put.head | apply Has.tail | apply Take.tail | apply Put.tail)); done)); rfl; rfl; clear hS; intro w1 hS)
      | (apply RO.op; apply OP.buildSlice hS; rfl; rfl; (exact eqAuto); rfl; rfl; rfl; rfl; rfl; clear hS; intro b w1 hS)
      | (apply RO.op; apply OP.makeMap hS; rfl; clear hS; intro b w1 hS)
      | refine RO.yes rfl rfl ?_
      | refine RO.no rfl rfl rfl rfl ?_
      | refine RO.noUndef rfl rfl rfl ?_
      | refine RO.noNone rfl rfl rfl ?_
      | refine Run.cond_true rfl ?_
      | refine Run.cond_false rfl ?_
      | refine Run.skip ?_
      | refine Run.block ?_
      | refine Run.inBlock ?_
      | refine Run.exit rfl ?_
    refine Run.ret Try.func52 rfl (.tmp rfl .nil) ?_
    exact ⟨_, _, _, rfl, hS.picks (by focus ((repeat (first | apply Picks.all | apply Picks.nil | (refine Picks.cons (by repeat (first | apply Take.head | apply Take.tail)) ?_) | apply Picks.drop)); done))⟩

set_option maxHeartbeats 4000000 in
theorem refLearn {refs : List Int} {v : Value} (g : Good lim L) (hl : Sl ρ intL 1 v refs) (hS : St we ρ σ w) (hr : Rd ρ σ r (.cells (flat L ++ spare).toArray 58 (0, 0))) :
    Cl Try.prog 40 [raV lim' r L.length cap, v] w fun u w' => ∃ b cb sp, u = .slice (some ⟨b, 0, none⟩) L.length cb ∧ St we ρ (Row b (boolsL L (learnAll L refs fun _ => false) ++ sp) 4 :: σ) w' := by
  have hlim := g.lim
  have hlen := g.len
  have hpos : 0 < L.length := g.wf.pos
  obtain ⟨p1, c1, rfl, h1, h2, _⟩ := hl.val
  unfold maxLen at h2
  refine Run.calls2 (n := 33) Try.func40 rfl rfl rfl ?_
  repeat' first
    | (apply RO.op; apply OP.makeRow (z := .bool false) hS; rfl; rfl; rfl; rfl; rfl; rfl; rfl; (exact (by omega)); decide; rfl; clear hS; intro bo w1 hS)
    | refine Run.seq ?_
    | refine Run.region ?_
    | (refine RO.split ?_ ?_ <;> intro hc <;> try (first | (exfalso; omega) | exact absurd rfl hc | exact Bool.noConfusion hc))
    | refine RO.nil ?_
    | refine RO.still (by exact Still.any) hS rfl ?_
    | (apply RO.op; apply OP.box hS; rfl; rfl; rfl; clear hS; intro b w1 hS)
    | (apply RO.op; apply OP.alloc hS; rfl; rfl; rfl; clear hS; intro b w1 hS)
    | (apply RO.op; apply OP.store hS; rfl; rfl; rfl; rfl; rfl; (focus ((repeat (first | apply Has.head | apply Take.head | apply Put.head | apply Has.tail | apply Take.tail | apply Put.tail)); done)); rfl; rfl; clear hS; intro w1 hS)
    | (apply RO.op; apply OP.buildSlice hS; rfl; rfl; (exact eqAuto); rfl; rfl; rfl; rfl; rfl; clear hS; intro b w1 hS)
    | (apply RO.op; apply OP.makeMap hS; rfl; clear hS; intro b w1 hS)
    | refine RO.yes rfl rfl ?_
    | refine RO.no rfl rfl rfl rfl ?_
    | refine RO.noUndef rfl rfl rfl ?_
    | refine RO.noNone rfl rfl rfl ?_
    | refine Run.cond_true rfl ?_
    | refine Run.cond_false rfl ?_
    | refine Run.skip ?_
    | refine Run.block ?_
    | refine Run.inBlock ?_
    | refine Run.exit rfl ?_
  rw [← boolsL_none] at hS
  refine Run.while (fun q : Nat × Nat × Nat × List Value => [(1, .slice p1 refs.length c1), (2, .pointer (some ⟨b, 0, none⟩)), (5, .slice (some ⟨q.2.1, 0, none⟩) L.length q.2.2.1), (6, .int .i64 q.1)])
    (fun q w => q.1 ≤ refs.length ∧ St we ρ (Row q.2.1 (boolsL L (learnAll L (refs.take q.1) fun _ => false) ++ q.2.2.2) 4 :: Row b [.int .i64 lim', .slice (some ⟨r, 0, none⟩) L.length cap] 48 :: σ) w) (fun q => refs.length - q.1) (0, bo, L.length, [])
    ⟨by simp, by simp only [List.append_nil]; exact hS.picks (by focus ((repeat (first | apply Picks.all | apply Picks.nil | (refine Picks.cons (by repeat (first | apply Take.head | apply Take.tail)) ?_) | apply Picks.drop)); done))⟩ (by focus ((repeat (first | exact .nil | refine .cons rfl ?_)); done)) ?_
  clear hS
  rintro ⟨i, g0, cg, sp⟩ w ⟨hi, hS⟩ ih
  simp only at hi hS ih ⊢
  by_cases hlt : i < refs.length
  · obtain ⟨b1, o1, cs1, e1, f1, rfl, m1, hx1⟩ := hl.int hlt
    have e0 : learnAll L (refs.take (i + 1)) (fun _ => false) = if has L refs[i] = true then cl L (ins (learnAll L (refs.take i) fun _ => false) refs[i]) else learnAll L (refs.take i) fun _ => false := by
      rw [List.take_succ_eq_append_getElem hlt, learnAll_snoc]
    have hhas := learnAll_has g (K := fun _ => false) (by simp) (refs.take i)
    generalize learnAll L (refs.take i) (fun _ => false) = K0 at hS e0 hhas
    generalize refs[i] = x at hx1 e0
    cases hx : has L x with
    | false =>
      rw [if_neg (by rw [hx]; simp)] at e0
      repeat' first
        | (refine Run.regionQ_of hS (by rfl) (by kernel_rfl) ?_; clear hS)
        | (refine RQ.still (by apply Still.load; rfl; rfl; exact Rd.ro m1; exact hx1) rfl ?_)
        | (apply RQ.callF; rfl; rfl; rfl; (show ∀ w, _ → Cl _ 21 _ _ _; exact fun w hS => refHas_is hx hS))
        | (refine RQ.split ?_ ?_ <;> intro hc <;> try (first | (exfalso; omega) | exact absurd rfl hc | exact Bool.noConfusion hc))
        | (refine RQ.nil ?_; (try clear hS); intro w1 hS)
        | refine RQ.still (by exact Still.any) rfl ?_
        | refine RQ.yes rfl rfl ?_
        | refine RQ.no rfl rfl rfl rfl ?_
        | refine RQ.noUndef rfl rfl rfl ?_
        | refine Run.seq ?_
        | refine Run.region ?_
        | (refine RO.split ?_ ?_ <;> intro hc <;> try (first | (exfalso; omega) | exact absurd rfl hc | exact Bool.noConfusion hc))
        | refine RO.nil ?_
        | refine RO.still (by exact Still.any) hS rfl ?_
        | (apply RO.op; apply OP.box hS; rfl; rfl; rfl; clear hS; intro b w1 hS)
        | (apply RO.op; apply OP.alloc hS; rfl; rfl; rfl; clear hS; intro b w1 hS)
        | (apply RO.op; apply OP.store hS; rfl; rfl; rfl; rfl; rfl; (focus ((repeat (first | apply Has.head | apply Take.head | apply Put.head | apply Has.tail | apply Take.tail | apply Put.tail)); done)); rfl; rfl; clear hS; intro w1 hS)
        | (apply RO.op; apply OP.buildSlice hS; rfl; rfl; (exact eqAuto); rfl; rfl; rfl; rfl; rfl; clear hS; intro b w1 hS)
        | (apply RO.op; apply OP.makeMap hS; rfl; clear hS; intro b w1 hS)
        | refine RO.yes rfl rfl ?_
        | refine RO.no rfl rfl rfl rfl ?_
        | refine RO.noUndef rfl rfl rfl ?_
        | refine RO.noNone rfl rfl rfl ?_
        | refine Run.cond_true rfl ?_
        | refine Run.cond_false rfl ?_
        | refine Run.skip ?_
        | refine Run.block ?_
        | refine Run.inBlock ?_
        | refine Run.exit rfl ?_
      refine Run.weaken (by focus ((repeat (first | exact .nil | refine .cons rfl ?_)); done)) (ih (i + 1, g0, cg, sp) _ ⟨by simp; omega, ?_⟩ (by simp; omega))
      simp only [e0]
      exact hS.picks (by focus ((repeat (first | apply Picks.all | apply Picks.nil | (refine Picks.cons (by repeat (first | apply Take.head | apply Take.tail)) ?_) | apply Picks.drop)); done))
    | true =>
      have hx2 := has_iff.1 hx
      rw [if_pos hx] at e0
      have g1 := boolsL_ins (K := K0) (spare := sp) hx
      have e1 := boolsL_ble (K := K0) (spare := sp) hx
      have hh : ∀ y, ins K0 x y = true → has L y = true := fun y hy => by
        rcases ins_iff.1 hy with q | rfl
        · exact hhas y q
        · exact hx
      repeat' first
        | (refine Run.regionQ_of hS (by rfl) (by kernel_rfl) ?_; clear hS)
        | (refine RQ.still (by apply Still.load; rfl; rfl; exact Rd.ro m1; exact hx1) rfl ?_)
        | (apply RQ.callF; rfl; rfl; rfl; (show ∀ w, _ → Cl _ 21 _ _ _; exact fun w hS => refHas_is hx hS))
        | (refine RQ.split ?_ ?_ <;> intro hc <;> try (first | (exfalso; omega) | exact absurd rfl hc | exact Bool.noConfusion hc))
        | (refine RQ.nil ?_; (try clear hS); intro w1 hS)
        | refine RQ.still (by exact Still.any) rfl ?_
        | refine RQ.yes rfl rfl ?_
        | refine RQ.no rfl rfl rfl rfl ?_
        | refine RQ.noUndef rfl rfl rfl ?_
        | (refine RO.still (by apply Still.load; rfl; rfl; exact Rd.ro m1; exact hx1) hS rfl ?_)
        | (apply RO.op; apply OP.store hS; rfl; rfl; rfl; rfl; rfl; (focus ((repeat (first | apply Has.head | apply Take.head | apply Put.head | apply Has.tail | apply Take.tail | apply Put.tail)); done)); exact e1; exact g1; clear hS; intro w1 hS)
        | (apply RO.op; apply OP.callF; rfl; rfl; rfl; apply refClose (K := ins K0 x) (spk := sp) g hh hS; (exact Rd.any); (exact Rd.any); clear hS; rintro v w1 ⟨g2, cg2, sp2, rfl, hS⟩)
        | refine Run.seq ?_
        | refine Run.region ?_
        | (refine RO.split ?_ ?_ <;> intro hc <;> try (first | (exfalso; omega) | exact absurd rfl hc | exact Bool.noConfusion hc))
        | refine RO.nil ?_
        | refine RO.still (by exact Still.any) hS rfl ?_
        | (apply RO.op; apply OP.box hS; rfl; rfl; rfl; clear hS; intro b w1 hS)
        | (apply RO.op; apply OP.alloc hS; rfl; rfl; rfl; clear hS; intro b w1 hS)
        | (apply RO.op; apply OP.store hS; rfl; rfl; rfl; rfl; rfl; (focus ((repeat (first | apply Has.head | apply Take.head | apply Put.head | apply Has.tail | apply Take.tail | apply Put.tail)); done)); rfl; rfl; clear hS; intro w1 hS)
        | (apply RO.op; apply OP.buildSlice hS; rfl; rfl; (exact eqAuto); rfl; rfl; rfl; rfl; rfl; clear hS; intro b w1 hS)
        | (apply RO.op; apply OP.makeMap hS; rfl; clear hS; intro b w1 hS)
        | refine RO.yes rfl rfl ?_
        | refine RO.no rfl rfl rfl rfl ?_
        | refine RO.noUndef rfl rfl rfl ?_
        | refine RO.noNone rfl rfl rfl ?_
        | refine Run.cond_true rfl ?_
        | refine Run.cond_false rfl ?_
        | refine Run.skip ?_
        | refine Run.block ?_
        | refine Run.inBlock ?_
        | refine Run.exit rfl ?_
      refine Run.weaken (by focus ((repeat (first | exact .nil | refine .cons rfl ?_)); done)) (ih (i + 1, g2, cg2, sp2) _ ⟨by simp; omega, ?_⟩ (by simp; omega))
      simp only [e0]
      exact hS.picks (by focus ((repeat (first | apply Picks.all | apply Picks.nil | (refine Picks.cons (by repeat (first | apply Take.head | apply Take.tail)) ?_) | apply Picks.drop)); done))
  · obtain rfl : i = refs.length := by omega
    rw [List.take_of_length_le (Nat.le_refl _)] at hS
    repeat' first
      | refine Run.seq ?_
      | refine Run.region ?_
      | (refine RO.split ?_ ?_ <;> intro hc <;> try (first | (exfalso; omega) | exact absurd rfl hc | exact Bool.noConfusion hc))
      | refine RO.nil ?_
      | refine RO.still (by exact Still.any) hS rfl ?_
      | (apply RO.op; apply OP.box hS; rfl; rfl; rfl; clear hS; intro b w1 hS)
      | (apply RO.op; apply OP.alloc hS; rfl; rfl; rfl; clear hS; intro b w1 hS)
      | (apply RO.op; apply OP.store hS; rfl; rfl; rfl; rfl; rfl; (focus ((repeat (first | apply Has.head | apply Take.head | apply Put.head | apply Has.tail | apply Take.tail | apply Put.tail)); done)); rfl; rfl; clear hS; intro w1 hS)
      | (apply RO.op; apply OP.buildSlice hS; rfl; rfl; (exact eqAuto); rfl; rfl; rfl; rfl; rfl; clear hS; intro b w1 hS)
      | (apply RO.op; apply OP.makeMap hS; rfl; clear hS; intro b w1 hS)
      | refine RO.yes rfl rfl ?_
      | refine RO.no rfl rfl rfl rfl ?_
      | refine RO.noUndef rfl rfl rfl ?_
      | refine RO.noNone rfl rfl rfl ?_
      | refine Run.cond_true rfl ?_
      | refine Run.cond_false rfl ?_
      | refine Run.skip ?_
      | refine Run.block ?_
      | refine Run.inBlock ?_
      | refine Run.exit rfl ?_
    refine Run.ret Try.func40 rfl (.tmp rfl .nil) ?_
    exact ⟨_, _, _, rfl, hS.picks (by focus ((repeat (first | apply Picks.all | apply Picks.nil | (refine Picks.cons (by repeat (first | apply Take.head | apply Take.tail)) ?_) | apply Picks.drop)); done))⟩
end
end Go.Proofs.Ytcigkkedffggiaa
