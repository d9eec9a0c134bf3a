/-
  What can be made: the closure 'can' by what is ahead; maker; Can, Knows.
-/
import Derived.Test.YthejfodjielahaaKnow2
namespace Go.Proofs.Ythejfodjielahaa
set_option maxRecDepth 8000
set_option linter.unusedSimpArgs false
set_option linter.unusedVariables false
open Go Go.RowKit

section
variable {we w : World} {ρ : List (Nat × Obj)} {σ F : List HP} {L : List Nd} {y : Lay} {kv kvK : List (Int × Bool)} {st stK : List Nat} {c cK : Nat} {K : Int → Bool}

theorem can_step {lim : Nat} (g : Good lim L) (hh : ∀ x, K x = true → has L x = true) (x : Int) : can L K x = (K x || (has L x && canR L K (can L K) x)) := by
  cases hx : has L x with
  | true => rw [can_eq g K hx, Bool.true_and]
  | false =>
    rw [can_out hx, Bool.false_and, Bool.or_false]
    cases hk : K x with
    | false => rfl
    | true => rw [hh x hk] at hx; cases hx

theorem looks_out {x : Int} (hx : has L x = false) (ht : Tells (can L K) kv st) (hS : St we ρ (Lk y L kv st c kvK stK cK :: F) w) :
    Cl Try.prog 42 [.int .i64 x, .pointer (some ⟨y.bk, 0, none⟩), .pointer (some ⟨y.bc, 0, none⟩), .pointer (some ⟨y.bo, 0, none⟩)] w
      fun v w' => ∃ kv' st' c', v = .bool (has L x && canR L K (can L K) x) ∧ Tells (can L K) kv' st' ∧ St we ρ (Lk y L kv' st' c' kvK stK cK :: F) w' := by
  replace hS := St.all.1 hS
  simp only [lkL, List.cons_append, List.nil_append] at hS
  rw [hx, Bool.false_and]
  refine Run.calls4 (n := 87) Try.func42 rfl rfl rfl ?_
  repeat' first
    | (apply RO.op; apply OP.callF; rfl; rfl; rfl; show Cl _ 22 _ _ _; exact get_calls (hS.take (by focus ((repeat (first | apply Has.head | apply Take.head | apply Put.head | apply Has.tail | apply Take.tail | apply Put.tail)); done))); clear hS; rintro v w1 ⟨rfl, hS⟩; rw [hx])
    | (apply OP.callF; rfl; rfl; rfl; show Cl _ 22 _ _ _; exact get_calls (hS.take (by focus ((repeat (first | apply Has.head | apply Take.head | apply Put.head | apply Has.tail | apply Take.tail | apply Put.tail)); done))); clear hS; rintro v w1 ⟨rfl, hS⟩; rw [hx]; refine ⟨(by first | exact hS | exact hS.tail | exact hS.sublist (by repeat (first | exact List.Sublist.refl _ | refine .cons_cons _ ?_ | refine .cons _ ?_))), ?_⟩)
    | refine Run.seq ?_
    | refine Run.region ?_
    | (refine RO.split ?_ ?_ <;> intro hc <;> try (first | (exfalso; omega) | exact absurd rfl hc | exact Bool.noConfusion hc))
    | refine RO.nil ?_
    | refine RO.still (by exact Still.any) hS rfl ?_
    | (apply RO.op; apply OP.box hS; rfl; rfl; rfl; clear hS; intro b w1 hS)
    | (apply RO.op; apply OP.alloc hS; rfl; rfl; rfl; clear hS; intro b w1 hS)
    | (apply RO.op; apply OP.store hS; rfl; rfl; rfl; rfl; rfl; (focus ((repeat (first | apply Has.head | apply Take.head | apply Put.head | apply Has.tail | apply Take.tail | apply Put.tail)); done)); rfl; rfl; clear hS; intro w1 hS)
    | (apply RO.op; apply OP.buildSlice hS; rfl; rfl; (exact eqAuto); rfl; rfl; rfl; rfl; rfl; clear hS; intro b w1 hS)
    | (apply RO.op; apply OP.makeMap hS; rfl; clear hS; intro b w1 hS)
    | refine RO.yes rfl rfl ?_
    | refine RO.no rfl rfl rfl rfl ?_
    | refine RO.noUndef rfl rfl rfl ?_
    | refine RO.noNone rfl rfl rfl ?_
    | refine Run.cond_true rfl ?_
    | refine Run.cond_false rfl ?_
    | refine Run.skip ?_
    | refine Run.block ?_
    | refine Run.inBlock ?_
    | refine Run.exit rfl ?_
  refine Run.ret Try.func42 rfl (.tmp rfl .nil) ?_
  have hS2 : St we ρ (Lk y L kv st c kvK stK cK :: _) _ := take9A hS
  exact ⟨kv, st, c, rfl, ht, hS2.picks (by focus ((repeat (first | apply Picks.all | apply Picks.nil | (refine Picks.cons (by repeat (first | apply Take.head | apply Take.tail)) ?_) | apply Picks.drop)); done))⟩

set_option maxHeartbeats 4000000 in
theorem can_from (hK : Knows K kvK stK) (hh : ∀ x, K x = true → has L x = true) (g : Good y.lim L) {x : Int}
    (hl : ∀ (w : World) (F : List HP) (kv : List (Int × Bool)) (st : List Nat) (c : Nat), Tells (can L K) kv st → St we ρ (Lk y L kv st c kvK stK cK :: F) w →
      Cl Try.prog 42 [.int .i64 x, .pointer (some ⟨y.bk, 0, none⟩), .pointer (some ⟨y.bc, 0, none⟩), .pointer (some ⟨y.bo, 0, none⟩)] w
        fun v w' => ∃ kv' st' c', v = .bool (has L x && canR L K (can L K) x) ∧ Tells (can L K) kv' st' ∧ St we ρ (Lk y L kv' st' c' kvK stK cK :: F) w')
    (ht : Tells (can L K) kv st) (hS : St we ρ (Lk y L kv st c kvK stK cK :: F) w) :
    Cl Try.prog 39 [.int .i64 x, .pointer (some ⟨y.bh, 0, none⟩), .pointer (some ⟨y.bk, 0, none⟩), .pointer (some ⟨y.bl, 0, none⟩)] w
      fun v w' => ∃ kv' st' c', v = .bool (can L K x) ∧ Tells (can L K) kv' st' ∧ St we ρ (Lk y L kv' st' c' kvK stK cK :: F) w' := by
  replace hS := St.all.1 hS
  simp only [lkL, List.cons_append, List.nil_append] at hS
  have hfd : ∀ z, mfind (fun u => decide (z = intK u)) (ents kfB vfB kvK stK) 0 = (kfindAt kvK z 0).map fun r => (r.1, vfB r.2) := fun z => ents_find (kf := kfB) (vf := vfB) (kof := intK) intK_of 0 hK.len
  have hfh : mfind (fun u => decide (x = intK u)) (ents kfB vfB kv st) 0 = (kfindAt kv x 0).map fun r => (r.1, vfB r.2) := ents_find (kf := kfB) (vf := vfB) (kof := intK) intK_of 0 ht.len
  obtain ⟨b, d, hfound, hd⟩ := tells_find ht x
  have hkf := knows_find hK x
  have hcs := can_step g hh x
  cases d with
  | true =>
    obtain rfl := hd rfl
    refine Run.calls4 (n := 31) Try.func39 rfl rfl rfl ?_
    repeat' first
      | (refine RO.still (by apply Still.lookupOk; rfl; rfl; rfl; rfl; (exact Rd.any); exact KeyIs.int (f := intK) rfl (ents_keys intK_of); exact hfh; exact hfound) hS rfl ?_)
      | refine Run.seq ?_
      | refine Run.region ?_
      | (refine RO.split ?_ ?_ <;> intro hc <;> try (first | (exfalso; omega) | exact absurd rfl hc | exact Bool.noConfusion hc))
      | refine RO.nil ?_
      | refine RO.still (by exact Still.any) hS rfl ?_
      | (apply RO.op; apply OP.box hS; rfl; rfl; rfl; clear hS; intro b w1 hS)
      | (apply RO.op; apply OP.alloc hS; rfl; rfl; rfl; clear hS; intro b w1 hS)
      | (apply RO.op; apply OP.store hS; rfl; rfl; rfl; rfl; rfl; (focus ((repeat (first | apply Has.head | apply Take.head | apply Put.head | apply Has.tail | apply Take.tail | apply Put.tail)); done)); rfl; rfl; clear hS; intro w1 hS)
      | (apply RO.op; apply OP.buildSlice hS; rfl; rfl; (exact eqAuto); rfl; rfl; rfl; rfl; rfl; clear hS; intro b w1 hS)
      | (apply RO.op; apply OP.makeMap hS; rfl; clear hS; intro b w1 hS)
      | refine RO.yes rfl rfl ?_
      | refine RO.no rfl rfl rfl rfl ?_
      | refine RO.noUndef rfl rfl rfl ?_
      | refine RO.noNone rfl rfl rfl ?_
      | refine Run.cond_true rfl ?_
      | refine Run.cond_false rfl ?_
      | refine Run.skip ?_
      | refine Run.block ?_
      | refine Run.inBlock ?_
      | refine Run.exit rfl ?_
    refine Run.ret Try.func39 rfl (.tmp rfl .nil) ?_
    have hS2 : St we ρ (Lk y L _ _ _ kvK stK cK :: _) _ := take9A hS
    exact ⟨_, _, _, rfl, ht, hS2.picks (by focus ((repeat (first | apply Picks.all | apply Picks.nil | (refine Picks.cons (by repeat (first | apply Take.head | apply Take.tail)) ?_) | apply Picks.drop)); done))⟩
  | false =>
    cases hk : K x with
    | true =>
      rw [hk] at hkf hcs
      rw [Bool.true_or] at hcs
      obtain ⟨kv2, st2, c2, hput, ht2⟩ := tells_put ht x c
      rw [hcs] at hput ⊢
      refine Run.calls4 (n := 31) Try.func39 rfl rfl rfl ?_
      repeat' first
        | (refine RO.still (by apply Still.lookupOk; rfl; rfl; rfl; rfl; (exact Rd.any); exact KeyIs.int (f := intK) rfl (ents_keys intK_of); exact hfh; exact hfound) hS rfl ?_)
        | (refine RO.still (by apply Still.lookup; rfl; rfl; rfl; rfl; (exact Rd.any); exact KeyIs.int (f := intK) rfl (ents_keys intK_of); exact hfd _; exact hkf) hS rfl ?_)
        | (apply RO.op; apply OP.mapUpdate hS; rfl; rfl; rfl; rfl; (focus ((repeat (first | apply Has.head | apply Take.head | apply Put.head | apply Has.tail | apply Take.tail | apply Put.tail)); done)); exact KeyIs.int (f := intK) rfl (ents_keys intK_of); exact bits_int (ents_keys intK_of); exact hput; clear hS; intro w1 hS)
        | refine Run.seq ?_
        | refine Run.region ?_
        | (refine RO.split ?_ ?_ <;> intro hc <;> try (first | (exfalso; omega) | exact absurd rfl hc | exact Bool.noConfusion hc))
        | refine RO.nil ?_
        | refine RO.still (by exact Still.any) hS rfl ?_
        | (apply RO.op; apply OP.box hS; rfl; rfl; rfl; clear hS; intro b w1 hS)
        | (apply RO.op; apply OP.alloc hS; rfl; rfl; rfl; clear hS; intro b w1 hS)
        | (apply RO.op; apply OP.store hS; rfl; rfl; rfl; rfl; rfl; (focus ((repeat (first | apply Has.head | apply Take.head | apply Put.head | apply Has.tail | apply Take.tail | apply Put.tail)); done)); rfl; rfl; clear hS; intro w1 hS)
        | (apply RO.op; apply OP.buildSlice hS; rfl; rfl; (exact eqAuto); rfl; rfl; rfl; rfl; rfl; clear hS; intro b w1 hS)
        | (apply RO.op; apply OP.makeMap hS; rfl; clear hS; intro b w1 hS)
        | refine RO.yes rfl rfl ?_
        | refine RO.no rfl rfl rfl rfl ?_
        | refine RO.noUndef rfl rfl rfl ?_
        | refine RO.noNone rfl rfl rfl ?_
        | refine Run.cond_true rfl ?_
        | refine Run.cond_false rfl ?_
        | refine Run.skip ?_
        | refine Run.block ?_
        | refine Run.inBlock ?_
        | refine Run.exit rfl ?_
      refine Run.ret Try.func39 rfl (.tmp rfl .nil) ?_
      have hS2 : St we ρ (Lk y L _ _ _ kvK stK cK :: _) _ := take9A hS
      exact ⟨_, _, _, rfl, ht2, hS2.picks (by focus ((repeat (first | apply Picks.all | apply Picks.nil | (refine Picks.cons (by repeat (first | apply Take.head | apply Take.tail)) ?_) | apply Picks.drop)); done))⟩
    | false =>
      rw [hk] at hkf hcs
      rw [Bool.false_or] at hcs
      simp only [← hcs] at hl
      refine Run.calls4 (n := 31) Try.func39 rfl rfl rfl ?_
      repeat' first
        | (refine RO.still (by apply Still.lookupOk; rfl; rfl; rfl; rfl; (exact Rd.any); exact KeyIs.int (f := intK) rfl (ents_keys intK_of); exact hfh; exact hfound) hS rfl ?_)
        | (refine RO.still (by apply Still.lookup; rfl; rfl; rfl; rfl; (exact Rd.any); exact KeyIs.int (f := intK) rfl (ents_keys intK_of); exact hfd _; exact hkf) hS rfl ?_)
        | (apply RO.op; apply OP.callV; rfl; rfl; rfl; rfl; exact hl _ _ _ _ _ ht (take9A hS); clear hS; rintro v w1 ⟨kv', st', c', rfl, ht', hS⟩; replace hS := St.all.1 hS; simp only [lkL, List.cons_append, List.nil_append] at hS; obtain ⟨kv2, st2, c2, hput, ht2⟩ := tells_put ht' x c')
        | (apply RO.op; apply OP.mapUpdate hS; rfl; rfl; rfl; rfl; (focus ((repeat (first | apply Has.head | apply Take.head | apply Put.head | apply Has.tail | apply Take.tail | apply Put.tail)); done)); exact KeyIs.int (f := intK) rfl (ents_keys intK_of); exact bits_int (ents_keys intK_of); exact hput; clear hS; intro w1 hS)
        | refine Run.seq ?_
        | refine Run.region ?_
        | (refine RO.split ?_ ?_ <;> intro hc <;> try (first | (exfalso; omega) | exact absurd rfl hc | exact Bool.noConfusion hc))
        | refine RO.nil ?_
        | refine RO.still (by exact Still.any) hS rfl ?_
        | (apply RO.op; apply OP.box hS; rfl; rfl; rfl; clear hS; intro b w1 hS)
        | (apply RO.op; apply OP.alloc hS; rfl; rfl; rfl; clear hS; intro b w1 hS)
        | (apply RO.op; apply OP.store hS; rfl; rfl; rfl; rfl; rfl; (focus ((repeat (first | apply Has.head | apply Take.head | apply Put.head | apply Has.tail | apply Take.tail | apply Put.tail)); done)); rfl; rfl; clear hS; intro w1 hS)
        | (apply RO.op; apply OP.buildSlice hS; rfl; rfl; (exact eqAuto); rfl; rfl; rfl; rfl; rfl; clear hS; intro b w1 hS)
        | (apply RO.op; apply OP.makeMap hS; rfl; clear hS; intro b w1 hS)
        | refine RO.yes rfl rfl ?_
        | refine RO.no rfl rfl rfl rfl ?_
        | refine RO.noUndef rfl rfl rfl ?_
        | refine RO.noNone rfl rfl rfl ?_
        | refine Run.cond_true rfl ?_
        | refine Run.cond_false rfl ?_
        | refine Run.skip ?_
        | refine Run.block ?_
        | refine Run.inBlock ?_
        | refine Run.exit rfl ?_
      refine Run.ret Try.func39 rfl (.tmp rfl .nil) ?_
      have hS2 : St we ρ (Lk y L _ _ _ kvK stK cK :: _) _ := take9A hS
      exact ⟨_, _, _, rfl, ht2, hS2.picks (by focus ((repeat (first | apply Picks.all | apply Picks.nil | (refine Picks.cons (by repeat (first | apply Take.head | apply Take.tail)) ?_) | apply Picks.drop)); done))⟩

theorem can_of (hK : Knows K kvK stK) (hh : ∀ x, K x = true → has L x = true) (g : Good y.lim L) : ∀ n, CanC we ρ y L kvK stK cK K n := by
  intro n
  induction n with
  | zero =>
    intro x w F kv st c hn ht hS
    have hx : has L x = false := by
      cases h : has L x with
      | false => rfl
      | true => have := hn h; omega
    exact can_from hK hh g (fun w F kv st c h1 h2 => looks_out hx h1 h2) ht hS
  | succ n ih =>
    intro x w F kv st c hn ht hS
    exact can_from hK hh g (fun w F kv st c h1 h2 => looks_of hK ih g (fun h => by have := hn h; omega) h1 h2) ht hS
end
end Go.Proofs.Ythejfodjielahaa
