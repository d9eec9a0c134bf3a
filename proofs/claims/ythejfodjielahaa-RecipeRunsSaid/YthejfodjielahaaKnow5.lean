/-
  What comes of all that is known: the closure that puts; more; Learn.
-/
import Derived.Test.YthejfodjielahaaKnow4
namespace Go.Proofs.Ythejfodjielahaa
set_option maxRecDepth 8000
set_option linter.unusedSimpArgs false
set_option linter.unusedVariables false
open Go Go.RowKit

section
variable {we w : World} {ρ : List (Nat × Obj)} {σ F : List HP} {L : List Nd} {kv kvK : List (Int × Bool)} {st stK : List Nat} {c cK : Nat} {K : Int → Bool} {kb km p lim : Nat} {hv : Value}

theorem vec_slice {el : TypeId} {size : Nat} {v : Value} {m : Nat} {xs : List Value} (h : St we ρ (Vec el size v m xs :: F) w) : ∃ pk cap, v = .slice pk m cap := by
  rcases (vec_open h).2 with ⟨rfl, rfl, _⟩ | ⟨g, cap, spare, rfl, _⟩
  · exact ⟨_, _, rfl⟩
  · exact ⟨_, _, rfl⟩

set_option maxHeartbeats 2000000 in
theorem put_calls {bk bo q n : Nat} {l out : List Int} {ov : Value} {cs : List Value} {el : TypeId} {fr : Nat × Nat} (hK : Knows K kvK stK) (hln : l.length ≤ 2) (hol : out.length ≤ 200000)
    (hq : Rd ρ F q (.cells cs.toArray el fr)) (hcs : ∀ (i : Nat) (h : i < l.length), cs[i]? = some (.int .i64 l[i]))
    (hS : St we ρ (Vec 3 1 ov out.length (out.flatMap intL) :: Row bk [.pointer (some ⟨kb, 0, none⟩)] 30 :: Row bo [ov] 23 :: Row kb [.pointer (some ⟨p, 0, none⟩), hv, .map (some km)] 71 :: BMap km kvK stK cK :: F) w) :
    Cl Try.prog 50 [.slice (some ⟨q, 0, none⟩) l.length n, .pointer (some ⟨bk, 0, none⟩), .pointer (some ⟨bo, 0, none⟩)] w
      fun v w' => ∃ ov', St we ρ (Vec 3 1 ov' (out ++ l.filter (fun x => !K x)).length ((out ++ l.filter (fun x => !K x)).flatMap intL) :: Row bk [.pointer (some ⟨kb, 0, none⟩)] 30 :: Row bo [ov'] 23 :: Row kb [.pointer (some ⟨p, 0, none⟩), hv, .map (some km)] 71 :: BMap km kvK stK cK :: F) w' := by
  refine Run.calls3 (n := 24) Try.func50 rfl rfl rfl ?_
  repeat' first
    | refine Run.seq ?_
    | refine Run.region ?_
    | (refine RO.split ?_ ?_ <;> intro hc <;> try (first | (exfalso; omega) | exact absurd rfl hc | exact Bool.noConfusion hc))
    | refine RO.nil ?_
    | refine RO.still (by exact Still.any) hS rfl ?_
    | (apply RO.op; apply OP.box hS; rfl; rfl; rfl; clear hS; intro b w1 hS)
    | (apply RO.op; apply OP.alloc hS; rfl; rfl; rfl; clear hS; intro b w1 hS)
    | (apply RO.op; apply OP.store hS; rfl; rfl; rfl; rfl; rfl; (focus ((repeat (first | apply Has.head | apply Take.head | apply Put.head | apply Has.tail | apply Take.tail | apply Put.tail)); done)); rfl; rfl; clear hS; intro w1 hS)
    | (apply RO.op; apply OP.buildSlice hS; rfl; rfl; (exact eqAuto); rfl; rfl; rfl; rfl; rfl; clear hS; intro b w1 hS)
    | (apply RO.op; apply OP.makeMap hS; rfl; clear hS; intro b w1 hS)
    | refine RO.yes rfl rfl ?_
    | refine RO.no rfl rfl rfl rfl ?_
    | refine RO.noUndef rfl rfl rfl ?_
    | refine RO.noNone rfl rfl rfl ?_
    | refine Run.cond_true rfl ?_
    | refine Run.cond_false rfl ?_
    | refine Run.skip ?_
    | refine Run.block ?_
    | refine Run.inBlock ?_
    | refine Run.exit rfl ?_
  refine Run.while (fun z : Nat × Value => [(1, .pointer (some ⟨bk, 0, none⟩)), (2, .pointer (some ⟨bo, 0, none⟩)), (6, .slice (some ⟨q, 0, none⟩) l.length n), (7, .int .i64 l.length), (8, .int .i64 z.1)])
    (fun z w => z.1 ≤ l.length ∧ St we ρ (Vec 3 1 z.2 (out ++ (l.take z.1).filter (fun x => !K x)).length ((out ++ (l.take z.1).filter (fun x => !K x)).flatMap intL) :: Row bk [.pointer (some ⟨kb, 0, none⟩)] 30 :: Row bo [z.2] 23 :: Row kb [.pointer (some ⟨p, 0, none⟩), hv, .map (some km)] 71 :: BMap km kvK stK cK :: F) w) (fun z => l.length - z.1) (0, ov)
    ⟨by simp, by simpa using hS⟩ (by focus ((repeat (first | exact .nil | refine .cons rfl ?_)); done)) ?_
  clear hS
  rintro ⟨i, ov⟩ w ⟨hi, hS⟩ ih
  simp only at hi hS ih ⊢
  by_cases hlt : i < l.length
  · have hci := hcs i hlt
    have hlen : (out ++ (l.take i).filter (fun x => !K x)).length ≤ 200002 := by
      rw [List.length_append]
      have := List.length_filter_le (fun x => !K x) (l.take i)
      rw [List.length_take] at this
      omega
    have e0 : (l.take (i + 1)).filter (fun x => !K x) = (l.take i).filter (fun x => !K x) ++ (if K l[i] = true then [] else [l[i]]) := by
      rw [List.take_succ_eq_append_getElem hlt, List.filter_append]
      cases hk : K l[i] <;> simp [hk]
    generalize hxx : l[i] = x at hci e0
    have hfd : mfind (fun u => decide (x = intK u)) (ents kfB vfB kvK stK) 0 = (kfindAt kvK x 0).map fun r => (r.1, vfB r.2) := ents_find (kf := kfB) (vf := vfB) (kof := intK) intK_of 0 hK.len
    have hkf := knows_find hK x
    generalize ho : out ++ (l.take i).filter (fun x => !K x) = o2 at hS hlen
    cases hk : K x with
    | true =>
      rw [hk] at hkf
      rw [hk, if_pos rfl, List.append_nil] at e0
      repeat' first
        | (refine RO.still (by apply Still.load; rfl; rfl; (exact Rd.any); exact hci) hS rfl ?_)
        | (refine RO.still (by apply Still.lookup; rfl; rfl; rfl; rfl; (exact Rd.any); exact KeyIs.int (f := intK) rfl (ents_keys intK_of); exact hfd; exact hkf) hS rfl ?_)
        | refine Run.seq ?_
        | refine Run.region ?_
        | (refine RO.split ?_ ?_ <;> intro hc <;> try (first | (exfalso; omega) | exact absurd rfl hc | exact Bool.noConfusion hc))
        | refine RO.nil ?_
        | refine RO.still (by exact Still.any) hS rfl ?_
        | (apply RO.op; apply OP.box hS; rfl; rfl; rfl; clear hS; intro b w1 hS)
        | (apply RO.op; apply OP.alloc hS; rfl; rfl; rfl; clear hS; intro b w1 hS)
        | (apply RO.op; apply OP.store hS; rfl; rfl; rfl; rfl; rfl; (focus ((repeat (first | apply Has.head | apply Take.head | apply Put.head | apply Has.tail | apply Take.tail | apply Put.tail)); done)); rfl; rfl; clear hS; intro w1 hS)
        | (apply RO.op; apply OP.buildSlice hS; rfl; rfl; (exact eqAuto); rfl; rfl; rfl; rfl; rfl; clear hS; intro b w1 hS)
        | (apply RO.op; apply OP.makeMap hS; rfl; clear hS; intro b w1 hS)
        | refine RO.yes rfl rfl ?_
        | refine RO.no rfl rfl rfl rfl ?_
        | refine RO.noUndef rfl rfl rfl ?_
        | refine RO.noNone rfl rfl rfl ?_
        | refine Run.cond_true rfl ?_
        | refine Run.cond_false rfl ?_
        | refine Run.skip ?_
        | refine Run.block ?_
        | refine Run.inBlock ?_
        | refine Run.exit rfl ?_
      refine Run.weaken (by focus ((repeat (first | exact .nil | refine .cons rfl ?_)); done)) (ih (i + 1, ov) _ ⟨by simp; omega, ?_⟩ (by simp; omega))
      simp only [e0, ho]
      exact hS.picks (by focus ((repeat (first | apply Picks.all | apply Picks.nil | (refine Picks.cons (by repeat (first | apply Take.head | apply Take.tail)) ?_) | apply Picks.drop)); done))
    | false =>
      rw [hk] at hkf
      rw [hk, if_neg (by simp)] at e0
      repeat' first
        | (refine RO.still (by apply Still.load; rfl; rfl; (exact Rd.any); exact hci) hS rfl ?_)
        | (refine RO.still (by apply Still.lookup; rfl; rfl; rfl; rfl; (exact Rd.any); exact KeyIs.int (f := intK) rfl (ents_keys intK_of); exact hfd; exact hkf) hS rfl ?_)
        | (apply RO.op; apply OP.append (size := 1) (bytes := 8) (k := 1) (news := [.int .i64 x]) hS; rfl; rfl; rfl; rfl; rfl; rfl; rfl; rfl; exact (by omega); (focus ((repeat (first | apply Has.head | apply Take.head | apply Put.head | apply Has.tail | apply Take.tail | apply Put.tail)); done)); (exact Rd.any); rfl; rfl; exact (by intro v hv; simp at hv; subst hv; rfl); (exact (by unfold maxLen; omega)); (exact (by omega)); rfl
           clear hS; intro v2 w1 hS; obtain ⟨pk, capk, rfl⟩ := vec_slice hS)
        | refine Run.seq ?_
        | refine Run.region ?_
        | (refine RO.split ?_ ?_ <;> intro hc <;> try (first | (exfalso; omega) | exact absurd rfl hc | exact Bool.noConfusion hc))
        | refine RO.nil ?_
        | refine RO.still (by exact Still.any) hS rfl ?_
        | (apply RO.op; apply OP.box hS; rfl; rfl; rfl; clear hS; intro b w1 hS)
        | (apply RO.op; apply OP.alloc hS; rfl; rfl; rfl; clear hS; intro b w1 hS)
        | (apply RO.op; apply OP.store hS; rfl; rfl; rfl; rfl; rfl; (focus ((repeat (first | apply Has.head | apply Take.head | apply Put.head | apply Has.tail | apply Take.tail | apply Put.tail)); done)); rfl; rfl; clear hS; intro w1 hS)
        | (apply RO.op; apply OP.buildSlice hS; rfl; rfl; (exact eqAuto); rfl; rfl; rfl; rfl; rfl; clear hS; intro b w1 hS)
        | (apply RO.op; apply OP.makeMap hS; rfl; clear hS; intro b w1 hS)
        | refine RO.yes rfl rfl ?_
        | refine RO.no rfl rfl rfl rfl ?_
        | refine RO.noUndef rfl rfl rfl ?_
        | refine RO.noNone rfl rfl rfl ?_
        | refine Run.cond_true rfl ?_
        | refine Run.cond_false rfl ?_
        | refine Run.skip ?_
        | refine Run.block ?_
        | refine Run.inBlock ?_
        | refine Run.exit rfl ?_
      refine Run.weaken (by focus ((repeat (first | exact .nil | refine .cons rfl ?_)); done)) (ih (i + 1, .slice pk (o2.length + 1) capk) _ ⟨by simp; omega, ?_⟩ (by simp; omega))
      simp only [e0, ← List.append_assoc, ho]
      rw [List.length_append, List.flatMap_append]
      exact hS.picks (by focus ((repeat (first | apply Picks.all | apply Picks.nil | (refine Picks.cons (by repeat (first | apply Take.head | apply Take.tail)) ?_) | apply Picks.drop)); done))
  · obtain rfl : i = l.length := by omega
    rw [List.take_of_length_le (Nat.le_refl _)] at hS
    repeat' first
      | refine Run.seq ?_
      | refine Run.region ?_
      | (refine RO.split ?_ ?_ <;> intro hc <;> try (first | (exfalso; omega) | exact absurd rfl hc | exact Bool.noConfusion hc))
      | refine RO.nil ?_
      | refine RO.still (by exact Still.any) hS rfl ?_
      | (apply RO.op; apply OP.box hS; rfl; rfl; rfl; clear hS; intro b w1 hS)
      | (apply RO.op; apply OP.alloc hS; rfl; rfl; rfl; clear hS; intro b w1 hS)
      | (apply RO.op; apply OP.store hS; rfl; rfl; rfl; rfl; rfl; (focus ((repeat (first | apply Has.head | apply Take.head | apply Put.head | apply Has.tail | apply Take.tail | apply Put.tail)); done)); rfl; rfl; clear hS; intro w1 hS)
      | (apply RO.op; apply OP.buildSlice hS; rfl; rfl; (exact eqAuto); rfl; rfl; rfl; rfl; rfl; clear hS; intro b w1 hS)
      | (apply RO.op; apply OP.makeMap hS; rfl; clear hS; intro b w1 hS)
      | refine RO.yes rfl rfl ?_
      | refine RO.no rfl rfl rfl rfl ?_
      | refine RO.noUndef rfl rfl rfl ?_
      | refine RO.noNone rfl rfl rfl ?_
      | refine Run.cond_true rfl ?_
      | refine Run.cond_false rfl ?_
      | refine Run.skip ?_
      | refine Run.block ?_
      | refine Run.inBlock ?_
      | refine Run.exit rfl ?_
    refine Run.done Try.func50 rfl .nil ?_
    exact ⟨_, hS.picks (by focus ((repeat (first | apply Picks.all | apply Picks.nil | (refine Picks.cons (by repeat (first | apply Take.head | apply Take.tail)) ?_) | apply Picks.drop)); done))⟩
end
end Go.Proofs.Ythejfodjielahaa
