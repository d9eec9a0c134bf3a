/-
  The document's answer for the layer of what is known: public, Can.
-/
import Derived.Test.YtcigkkedffggiaaKnow9
import Derived.Test.YtcigkkedffggiaaKnow10
import Derived.Test.YtcigkkedffggiaaLaw2
import Derived.Laws.MakeOwn
namespace Go.Proofs.Ytcigkkedffggiaa
set_option maxRecDepth 8000
set_option linter.unusedSimpArgs false
set_option linter.unusedVariables false
open Go Go.RowKit

section
variable {P : Program} {f : FuncId} {n : Nat} {R : Ending → World → Prop} {k : List Item} {e : Env} {ty : TypeId} {x y z : Operand} {u v : Value}
variable {we w : World} {ρ : List (Nat × Obj)} {σ σ' F : List HP} {d : Nat} {pos : String} {aft : Array Edge} {gd : Option (Nat × Bool)} {K : Env → World → Prop}

/-- make, of so many cells that are all alike. -/
theorem OP.makeRow {t el : TypeId} {i : TypeInfo} {z : Value} {q1 q2 : IntKind} {m : Nat} (hS : St we ρ σ w) (hx : ev e x = some (.int q1 m)) (hy : ev e y = some (.int q2 m)) (ht : elemB P t = some el) (hi : P.info? el = some i) (hz : i.zero = some z) (hsize : i.size = 1)
    (hzc : z.cells = #[z]) (hm : m ≤ 1000000) (hb : i.bytes * 1000000 ≤ 281474976710656) (hd : Nat.blt d n = true)
    (hk : ∀ b w1, St we ρ (Row b (List.replicate m z) el :: σ) w1 → K ((d, .slice (some ⟨b, 0, none⟩) m m) :: e) w1) : OP P n ⟨some d, .makeSlice t x y, ty, pos, aft, gd⟩ e w K := by
  have hb2 : (i.bytes : Int) * (m : Int) ≤ 281474976710656 := by
    have : i.bytes * m ≤ i.bytes * 1000000 := Nat.mul_le_mul_left _ hm
    rw [← Int.natCast_mul]
    exact Int.ofNat_le.2 (Nat.le_trans this hb)
  have hr := run_make (P := P) w t el i z (run_elem ht) hi hz q1 q2 m m (by omega) (Int.le_refl _) hb2 (by omega)
  have hcells : madeCells z.cells ((m : Int).toNat * i.size) = (List.replicate m z).toArray := by
    rw [hzc, hsize, Int.toNat_natCast, Nat.mul_one]
    apply Array.ext'
    apply List.ext_getElem
    · simp [madeCells]
    · intro j h1 h2
      simp [madeCells, Nat.mod_one]
  rw [hcells] at hr
  exact OP.put (fun a ha => by simp only [execOp, ha.ev hx, ha.ev hy, Sem.run_bind, hr, Result.andThen_ok, Sem.run_pure, Int.toNat_natCast]) hd (hk _ _ (hS.alloc _))
end

theorem boolsL_none (L : List Nd) : boolsL L (fun _ => false) = List.replicate L.length (Value.bool false) := by
  apply List.ext_getElem
  · simp [boolsL]
  · intro j h1 h2
    simp [boolsL]

section
variable {we w : World} {ρ : List (Nat × Obj)} {σ F : List HP} {lim lim' r cap : Nat} {L : List Nd} {K : Int → Bool} {spare : List Value}

set_option maxHeartbeats 4000000 in
theorem public_calls {x : Int} {b : Bool} {bk ck bc cc : Nat} {csC spk : List Value} (g : Good lim L) (hx : has L x = true) (hS : St we ρ σ w) (hr : Rd ρ σ r (.cells (flat L ++ spare).toArray 58 (0, 0)))
    (hk : Rd ρ σ bk (.cells (boolsL L K ++ spk).toArray 4 (0, 0))) (hc : Rd ρ σ bc (.cells csC.toArray 4 (0, 0))) (hcx : csC[x.toNat]? = some (.bool b)) :
    Cl Try.prog 53 [raV lim' r L.length cap, .slice (some ⟨bk, 0, none⟩) L.length ck, .slice (some ⟨bc, 0, none⟩) L.length cc, .int .i64 x] w fun v w' => v = .bool (b || pubK L K x) ∧ St we ρ σ w' := by
  have hx2 := has_iff.1 hx
  have hlim := g.lim
  have hlen := g.len
  cases b with
  | true =>
    refine Run.calls4 (n := 44) Try.func53 rfl rfl rfl ?_
    repeat' first
      | (refine RO.still (by apply Still.load; rfl; rfl; (exact Rd.any); exact hcx) hS rfl ?_)
      | refine Run.seq ?_
      | refine Run.region ?_
      | (refine RO.split ?_ ?_ <;> intro hc <;> try (first | (exfalso; omega) | exact absurd rfl hc | exact Bool.noConfusion hc))
      | refine RO.nil ?_
      | refine RO.still (by exact Still.any) hS rfl ?_
      | (apply RO.op; apply OP.box hS; rfl; rfl; rfl; clear hS; intro b w1 hS)
      | (apply RO.op; apply OP.alloc hS; rfl; rfl; rfl; clear hS; intro b w1 hS)
      | (apply RO.op; apply OP.store hS; rfl; rfl; rfl; rfl; rfl; (focus ((repeat (first | apply Has.head | apply Take.head | apply Put.head | apply Has.tail | apply Take.tail | apply Put.tail)); done)); rfl; rfl; clear hS; intro w1 hS)
      | (apply RO.op; apply OP.buildSlice hS; rfl; rfl; (exact eqAuto); rfl; rfl; rfl; rfl; rfl; clear hS; intro b w1 hS)
      | (apply RO.op; apply OP.makeMap hS; rfl; clear hS; intro b w1 hS)
      | refine RO.yes rfl rfl ?_
      | refine RO.no rfl rfl rfl rfl ?_
      | refine RO.noUndef rfl rfl rfl ?_
      | refine RO.noNone rfl rfl rfl ?_
      | refine Run.cond_true rfl ?_
      | refine Run.cond_false rfl ?_
      | refine Run.skip ?_
      | refine Run.block ?_
      | refine Run.inBlock ?_
      | refine Run.exit rfl ?_
    refine Run.ret Try.func53 rfl (.tmp rfl .nil) ?_
    exact ⟨rfl, hS.picks (by focus ((repeat (first | apply Picks.all | apply Picks.nil | (refine Picks.cons (by repeat (first | apply Take.head | apply Take.tail)) ?_) | apply Picks.drop)); done))⟩
  | false =>
    rw [Bool.false_or]
    refine Run.calls4 (n := 44) Try.func53 rfl rfl rfl ?_
    repeat' first
      | (refine RO.still (by apply Still.load; rfl; rfl; (exact Rd.any); exact hcx) hS rfl ?_)
      | refine Run.seq ?_
      | refine Run.region ?_
      | (refine RO.split ?_ ?_ <;> intro hc <;> try (first | (exfalso; omega) | exact absurd rfl hc | exact Bool.noConfusion hc))
      | refine RO.nil ?_
      | refine RO.still (by exact Still.any) hS rfl ?_
      | (apply RO.op; apply OP.box hS; rfl; rfl; rfl; clear hS; intro b w1 hS)
      | (apply RO.op; apply OP.alloc hS; rfl; rfl; rfl; clear hS; intro b w1 hS)
      | (apply RO.op; apply OP.store hS; rfl; rfl; rfl; rfl; rfl; (focus ((repeat (first | apply Has.head | apply Take.head | apply Put.head | apply Has.tail | apply Take.tail | apply Put.tail)); done)); rfl; rfl; clear hS; intro w1 hS)
      | (apply RO.op; apply OP.buildSlice hS; rfl; rfl; (exact eqAuto); rfl; rfl; rfl; rfl; rfl; clear hS; intro b w1 hS)
      | (apply RO.op; apply OP.makeMap hS; rfl; clear hS; intro b w1 hS)
      | refine RO.yes rfl rfl ?_
      | refine RO.no rfl rfl rfl rfl ?_
      | refine RO.noUndef rfl rfl rfl ?_
      | refine RO.noNone rfl rfl rfl ?_
      | refine Run.cond_true rfl ?_
      | refine Run.cond_false rfl ?_
      | refine Run.skip ?_
      | refine Run.block ?_
      | refine Run.inBlock ?_
      | refine Run.exit rfl ?_
    refine Run.while (fun i : Nat => [(1, .slice (some ⟨bk, 0, none⟩) L.length ck), (3, .int .i64 x), (4, .pointer (some ⟨b, 0, none⟩)), (9, .int .i64 i)])
      (fun i w => i ≤ L.length ∧ (∀ j : Nat, j < i → ¬ (K j = true ∧ (nd L j).k = 2 ∧ (nd L j).a = x)) ∧ St we ρ (Row b [.int .i64 lim', .slice (some ⟨r, 0, none⟩) L.length cap] 48 :: σ) w) (fun i => L.length - i) 0
      ⟨by omega, fun j hj => by omega, hS.picks (by focus ((repeat (first | apply Picks.all | apply Picks.nil | (refine Picks.cons (by repeat (first | apply Take.head | apply Take.tail)) ?_) | apply Picks.drop)); done))⟩ (by focus ((repeat (first | exact .nil | refine .cons rfl ?_)); done)) ?_
    clear hS
    rintro i w ⟨hi, hno, hS⟩ ih
    by_cases hlt : i < L.length
    · have hih : has L (i : Int) = true := has_of hlt
      have f0 : (flat L ++ spare)[i * 5]? = some (.int .i64 (nd L i).k) := flat_get0 (x := (i : Int)) hih
      have f2 : (flat L ++ spare)[i * 5 + 2]? = some (.int .i64 (nd L i).a) := flat_get2 (x := (i : Int)) hih
      have fk : (boolsL L K ++ spk)[i]? = some (.bool (K i)) := boolsL_get (x := (i : Int)) hih
      have hnext : ¬ (K i = true ∧ (nd L i).k = 2 ∧ (nd L i).a = x) → ∀ j : Nat, j < i + 1 → ¬ (K j = true ∧ (nd L j).k = 2 ∧ (nd L j).a = x) := fun h j hj => by
        by_cases e : j = i
        · subst e; exact h
        · exact hno j (by omega)
      cases hK : K (i : Int) with
      | false =>
        rw [hK] at fk
        have hn2 := hnext (fun h => by rw [hK] at h; cases h.1)
        repeat' first
          | (refine RO.still (by apply Still.load; rfl; rfl; (exact Rd.any); exact fk) hS rfl ?_)
          | refine Run.seq ?_
          | refine Run.region ?_
          | (refine RO.split ?_ ?_ <;> intro hc <;> try (first | (exfalso; omega) | exact absurd rfl hc | exact Bool.noConfusion hc))
          | refine RO.nil ?_
          | refine RO.still (by exact Still.any) hS rfl ?_
          | (apply RO.op; apply OP.box hS; rfl; rfl; rfl; clear hS; intro b w1 hS)
          | (apply RO.op; apply OP.alloc hS; rfl; rfl; rfl; clear hS; intro b w1 hS)
          | (apply RO.op; apply OP.store hS; rfl; rfl; rfl; rfl; rfl; (focus ((repeat (first | apply Has.head | apply Take.head | apply Put.head | apply Has.tail | apply Take.tail | apply Put.tail)); done)); rfl; rfl; clear hS; intro w1 hS)
          | (apply RO.op; apply OP.buildSlice hS; rfl; rfl; (exact eqAuto); rfl; rfl; rfl; rfl; rfl; clear hS; intro b w1 hS)
          | (apply RO.op; apply OP.makeMap hS; rfl; clear hS; intro b w1 hS)
          | refine RO.yes rfl rfl ?_
          | refine RO.no rfl rfl rfl rfl ?_
          | refine RO.noUndef rfl rfl rfl ?_
          | refine RO.noNone rfl rfl rfl ?_
          | refine Run.cond_true rfl ?_
          | refine Run.cond_false rfl ?_
          | refine Run.skip ?_
          | refine Run.block ?_
          | refine Run.inBlock ?_
          | refine Run.exit rfl ?_
        refine Run.weaken (by focus ((repeat (first | exact .nil | refine .cons rfl ?_)); done)) (ih (i + 1) _ ⟨by omega, hn2, hS.picks (by focus ((repeat (first | apply Picks.all | apply Picks.nil | (refine Picks.cons (by repeat (first | apply Take.head | apply Take.tail)) ?_) | apply Picks.drop)); done))⟩ (by omega))
      | true =>
        rw [hK] at fk
        by_cases h2 : (nd L i).k = 2
        · by_cases ha : (nd L i).a = x
          · have hp := (pubK_iff g (K := K) (x := x)).2 ⟨i, hlt, hK, h2, ha⟩
            rw [hp]
            repeat' first
              | (refine RO.still (by apply Still.load; rfl; rfl; (exact Rd.any); exact fk) hS rfl ?_)
              | (refine RO.still (by apply Still.load; rfl; rfl; (exact Rd.any); exact f0) hS rfl ?_)
              | (refine RO.still (by apply Still.load; rfl; rfl; (exact Rd.any); exact f2) hS rfl ?_)
              | refine Run.seq ?_
              | refine Run.region ?_
              | (refine RO.split ?_ ?_ <;> intro hc <;> try (first | (exfalso; omega) | exact absurd rfl hc | exact Bool.noConfusion hc))
              | refine RO.nil ?_
              | refine RO.still (by exact Still.any) hS rfl ?_
              | (apply RO.op; apply OP.box hS; rfl; rfl; rfl; clear hS; intro b w1 hS)
              | (apply RO.op; apply OP.alloc hS; rfl; rfl; rfl; clear hS; intro b w1 hS)
              | (apply RO.op; apply OP.store hS; rfl; rfl; rfl; rfl; rfl; (focus ((repeat (first | apply Has.head | apply Take.head | apply Put.head | apply Has.tail | apply Take.tail | apply Put.tail)); done)); rfl; rfl; clear hS; intro w1 hS)
              | (apply RO.op; apply OP.buildSlice hS; rfl; rfl; (exact eqAuto); rfl; rfl; rfl; rfl; rfl; clear hS; intro b w1 hS)
              | (apply RO.op; apply OP.makeMap hS; rfl; clear hS; intro b w1 hS)
              | refine RO.yes rfl rfl ?_
              | refine RO.no rfl rfl rfl rfl ?_
              | refine RO.noUndef rfl rfl rfl ?_
              | refine RO.noNone rfl rfl rfl ?_
              | refine Run.cond_true rfl ?_
              | refine Run.cond_false rfl ?_
              | refine Run.skip ?_
              | refine Run.block ?_
              | refine Run.inBlock ?_
              | refine Run.exit rfl ?_
            refine Run.ret Try.func53 rfl (.tmp rfl .nil) ?_
            exact ⟨rfl, hS.picks (by focus ((repeat (first | apply Picks.all | apply Picks.nil | (refine Picks.cons (by repeat (first | apply Take.head | apply Take.tail)) ?_) | apply Picks.drop)); done))⟩
          · have hn2 := hnext (fun h => ha h.2.2)
            repeat' first
              | (refine RO.still (by apply Still.load; rfl; rfl; (exact Rd.any); exact fk) hS rfl ?_)
              | (refine RO.still (by apply Still.load; rfl; rfl; (exact Rd.any); exact f0) hS rfl ?_)
              | (refine RO.still (by apply Still.load; rfl; rfl; (exact Rd.any); exact f2) hS rfl ?_)
              | refine Run.seq ?_
              | refine Run.region ?_
              | (refine RO.split ?_ ?_ <;> intro hc <;> try (first | (exfalso; omega) | exact absurd rfl hc | exact Bool.noConfusion hc))
              | refine RO.nil ?_
              | refine RO.still (by exact Still.any) hS rfl ?_
              | (apply RO.op; apply OP.box hS; rfl; rfl; rfl; clear hS; intro b w1 hS)
              | (apply RO.op; apply OP.alloc hS; rfl; rfl; rfl; clear hS; intro b w1 hS)
              | (apply RO.op; apply OP.store hS; rfl; rfl; rfl; rfl; rfl; (focus ((repeat (first | apply Has.head | apply Take.head | apply Put.head | apply Has.tail | apply Take.tail | apply Put.tail)); done)); rfl; rfl; clear hS; intro w1 hS)
              | (apply RO.op; apply OP.buildSlice hS; rfl; rfl; (exact eqAuto); rfl; rfl; rfl; rfl; rfl; clear hS; intro b w1 hS)
              | (apply RO.op; apply OP.makeMap hS; rfl; clear hS; intro b w1 hS)
              | refine RO.yes rfl rfl ?_
              | refine RO.no rfl rfl rfl rfl ?_
              | refine RO.noUndef rfl rfl rfl ?_
              | refine RO.noNone rfl rfl rfl ?_
              | refine Run.cond_true rfl ?_
              | refine Run.cond_false rfl ?_
              | refine Run.skip ?_
              | refine Run.block ?_
              | refine Run.inBlock ?_
              | refine Run.exit rfl ?_
            refine Run.weaken (by focus ((repeat (first | exact .nil | refine .cons rfl ?_)); done)) (ih (i + 1) _ ⟨by omega, hn2, hS.picks (by focus ((repeat (first | apply Picks.all | apply Picks.nil | (refine Picks.cons (by repeat (first | apply Take.head | apply Take.tail)) ?_) | apply Picks.drop)); done))⟩ (by omega))
        · have hn2 := hnext (fun h => h2 h.2.1)
          repeat' first
            | (refine RO.still (by apply Still.load; rfl; rfl; (exact Rd.any); exact fk) hS rfl ?_)
            | (refine RO.still (by apply Still.load; rfl; rfl; (exact Rd.any); exact f0) hS rfl ?_)
            | refine Run.seq ?_
            | refine Run.region ?_
            | (refine RO.split ?_ ?_ <;> intro hc <;> try (first | (exfalso; omega) | exact absurd rfl hc | exact Bool.noConfusion hc))
            | refine RO.nil ?_
            | refine RO.still (by exact Still.any) hS rfl ?_
            | (apply RO.op; apply OP.box hS; rfl; rfl; rfl; clear hS; intro b w1 hS)
            | (apply RO.op; apply OP.alloc hS; rfl; rfl; rfl; clear hS; intro b w1 hS)
            | (apply RO.op; apply OP.store hS; rfl; rfl; rfl; rfl; rfl; (focus ((repeat (first | apply Has.head | apply Take.head | apply Put.head | apply Has.tail | apply Take.tail | apply Put.tail)); done)); rfl; rfl; clear hS; intro w1 hS)
            | (apply RO.op; apply OP.buildSlice hS; rfl; rfl; (exact eqAuto); rfl; rfl; rfl; rfl; rfl; clear hS; intro b w1 hS)
            | (apply RO.op; apply OP.makeMap hS; rfl; clear hS; intro b w1 hS)
            | refine RO.yes rfl rfl ?_
            | refine RO.no rfl rfl rfl rfl ?_
            | refine RO.noUndef rfl rfl rfl ?_
            | refine RO.noNone rfl rfl rfl ?_
            | refine Run.cond_true rfl ?_
            | refine Run.cond_false rfl ?_
            | refine Run.skip ?_
            | refine Run.block ?_
            | refine Run.inBlock ?_
            | refine Run.exit rfl ?_
          refine Run.weaken (by focus ((repeat (first | exact .nil | refine .cons rfl ?_)); done)) (ih (i + 1) _ ⟨by omega, hn2, hS.picks (by focus ((repeat (first | apply Picks.all | apply Picks.nil | (refine Picks.cons (by repeat (first | apply Take.head | apply Take.tail)) ?_) | apply Picks.drop)); done))⟩ (by omega))
    · obtain rfl : i = L.length := by omega
      have hp : pubK L K x = false := by
        cases h : pubK L K x with
        | false => rfl
        | true =>
          obtain ⟨j, h1, h2⟩ := (pubK_iff g).1 h
          exact absurd h2 (hno j h1)
      rw [hp]
      repeat' first
        | refine Run.seq ?_
        | refine Run.region ?_
        | (refine RO.split ?_ ?_ <;> intro hc <;> try (first | (exfalso; omega) | exact absurd rfl hc | exact Bool.noConfusion hc))
        | refine RO.nil ?_
        | refine RO.still (by exact Still.any) hS rfl ?_
        | (apply RO.op; apply OP.box hS; rfl; rfl; rfl; clear hS; intro b w1 hS)
        | (apply RO.op; apply OP.alloc hS; rfl; rfl; rfl; clear hS; intro b w1 hS)
        | (apply RO.op; apply OP.store hS; rfl; rfl; rfl; rfl; rfl; (focus ((repeat (first | apply Has.head | apply Take.head | apply Put.head | apply Has.tail | apply Take.tail | apply Put.tail)); done)); rfl; rfl; clear hS; intro w1 hS)
        | (apply RO.op; apply OP.buildSlice hS; rfl; rfl; (exact eqAuto); rfl; rfl; rfl; rfl; rfl; clear hS; intro b w1 hS)
        | (apply RO.op; apply OP.makeMap hS; rfl; clear hS; intro b w1 hS)
        | refine RO.yes rfl rfl ?_
        | refine RO.no rfl rfl rfl rfl ?_
        | refine RO.noUndef rfl rfl rfl ?_
        | refine RO.noNone rfl rfl rfl ?_
        | refine Run.cond_true rfl ?_
        | refine Run.cond_false rfl ?_
        | refine Run.skip ?_
        | refine Run.block ?_
        | refine Run.inBlock ?_
        | refine Run.exit rfl ?_
      refine Run.ret Try.func53 rfl (.tmp rfl .nil) ?_
      exact ⟨rfl, hS.picks (by focus ((repeat (first | apply Picks.all | apply Picks.nil | (refine Picks.cons (by repeat (first | apply Take.head | apply Take.tail)) ?_) | apply Picks.drop)); done))⟩
end
end Go.Proofs.Ytcigkkedffggiaa
