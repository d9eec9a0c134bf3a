/-
  The laws' helpers for the layer of stores: awake; a put's outcome.
-/
import Derived.Test.YtkcmjjgojpenoaaStoreIS
import Derived.Test.YtkcmjjgojpenoaaArgs
namespace Go.Proofs.Ytkcmjjgojpenoaa
set_option linter.unusedSimpArgs false
set_option linter.unusedVariables false
open Go Go.RowKit

section
variable {α β : Type} [DecidableEq α]
theorem kput_get {kv : List (α × β)} (hn : Keyed1 kv) {lim : Int} {k : α} {v : β} (h : (kput lim kv k v).2 = 0) : ∃ j, kfindAt (kput lim kv k v).1 k 0 = some (j, v) := by
  have hk := kput_keyed hn lim k v
  unfold kput at h hk ⊢
  cases hf : kfindAt kv k 0 with
  | some r =>
    obtain ⟨i, b⟩ := r
    rw [hf] at hk
    obtain ⟨h1, h2⟩ := kfind_some hf
    exact ⟨i, kfind_of hk (by simp [h1])⟩
  | none =>
    rw [hf] at h hk
    simp only at h hk ⊢
    by_cases hl : lim ≤ kv.length
    · rw [if_pos hl] at h; cases h
    · rw [if_neg hl] at hk ⊢
      exact ⟨kv.length, kfind_of hk (by simp)⟩
theorem kput_some {kv : List (α × β)} {lim : Int} {k : α} {v : β} {r : Nat × β} (h : kfindAt kv k 0 = some r) : kput lim kv k v = (kv.set r.1 (k, v), 0) := by simp [kput, h]
theorem kput_full {kv : List (α × β)} {lim : Int} {k : α} {v : β} (h : kfindAt kv k 0 = none) (hl : lim ≤ kv.length) : kput lim kv k v = (kv, 3) := by simp [kput, h, hl]
theorem kput_new {kv : List (α × β)} {lim : Int} {k : α} {v : β} (h : kfindAt kv k 0 = none) (hl : ¬ lim ≤ kv.length) : kput lim kv k v = (kv ++ [(k, v)], 0) := by simp [kput, h, hl]
end

theorem get_of_take {cs : List Value} {k : Nat} {u : Value} (h : (cs.drop k).take 1 = [u]) : cs[k]? = some u := by
  have h2 : ((cs.drop k).take 1)[0]? = some u := by rw [h]; rfl
  simpa using h2

section
variable {we w : World} {ρ : List (Nat × Obj)} {σ F : List HP} {p : Nat} {lim : Int} {kv : List (Int × ByteArray)}

theorem putIs {k e : Int} {u : ByteArray} {kv' : List (Int × ByteArray)} (h : kput lim kv k u = (kv', e)) (hb : kv.length ≤ 100000) (hS : St we ρ (StoreIS p lim kv :: F) w) :
    Cl Try.prog 13 [.pointer (some ⟨p, 0, none⟩), .int .i64 k, .string u] w fun v w' => v = .int .i64 e ∧ St we ρ (StoreIS p lim kv' :: F) w' := by
  have := putIS (k := k) (u := u) hb hS
  rwa [h] at this
theorem getYes {k : Int} {j : Nat} {b : ByteArray} (h : kfindAt kv k 0 = some (j, b)) (hS : St we ρ (StoreIS p lim kv :: F) w) :
    Cl Try.prog 15 [.pointer (some ⟨p, 0, none⟩), .int .i64 k] w fun v w' => v = .tuple #[.string b, .bool true] ∧ St we ρ (StoreIS p lim kv :: F) w' := by
  have := getIS (k := k) hS
  rwa [h] at this

theorem aw1 : kput 1 ([] : List (Int × ByteArray)) 1 ⟨#[97]⟩ = ([(1, ⟨#[97]⟩)], 0) := by rfl
theorem aw2 : kput 1 ([(1, ⟨#[97]⟩)] : List (Int × ByteArray)) 2 ⟨#[98]⟩ = ([(1, ⟨#[97]⟩)], 3) := by rfl
theorem aw3 : kput 1 ([(1, ⟨#[97]⟩)] : List (Int × ByteArray)) 1 ⟨#[99]⟩ = ([(1, ⟨#[99]⟩)], 0) := by rfl
theorem aw4 : kfindAt ([(1, ⟨#[99]⟩)] : List (Int × ByteArray)) 1 0 = some (0, ⟨#[99]⟩) := by rfl

set_option maxHeartbeats 4000000 in
theorem awake_calls (hS : St we ρ σ w) : Cl Try.prog 7 [] w fun v w' => v = .bool true ∧ St we ρ σ w' := by
  refine Run.calls0 (n := 43) Try.func7 rfl rfl ?_
  repeat' first
    | (apply RO.op; apply OP.callF; rfl; rfl; rfl; show Cl _ 12 _ _ _; exact newIS hS; clear hS; rintro v w1 ⟨p, rfl, hS⟩; replace hS : St we ρ (StoreIS p 1 [] :: σ) w1 := hS)
    | (apply OP.callF; rfl; rfl; rfl; show Cl _ 12 _ _ _; exact newIS hS; clear hS; rintro v w1 ⟨p, rfl, hS⟩; replace hS : St we ρ (StoreIS p 1 [] :: σ) w1 := hS; refine ⟨(by first | exact hS | exact hS.tail | exact hS.sublist (by repeat (first | exact List.Sublist.refl _ | refine .cons_cons _ ?_ | refine .cons _ ?_))), ?_⟩)
    | (apply RO.op; apply OP.callF; rfl; rfl; rfl; show Cl _ 13 _ _ _; (first | (apply putIs aw1 (by decide); exact hS) | (apply putIs aw2 (by decide); exact hS) | (apply putIs aw3 (by decide); exact hS)); clear hS; rintro v w1 ⟨rfl, hS⟩)
    | (apply RO.op; apply OP.callF; rfl; rfl; rfl; show Cl _ 15 _ _ _; exact getYes aw4 hS; clear hS; rintro v w1 ⟨rfl, hS⟩)
    | (apply OP.callF; rfl; rfl; rfl; show Cl _ 15 _ _ _; exact getYes aw4 hS; clear hS; rintro v w1 ⟨rfl, hS⟩; refine ⟨(by first | exact hS | exact hS.tail | exact hS.sublist (by repeat (first | exact List.Sublist.refl _ | refine .cons_cons _ ?_ | refine .cons _ ?_))), ?_⟩)
    | (apply RO.op; apply OP.callF; rfl; rfl; rfl; show Cl _ 16 _ _ _; exact lenIS hS; clear hS; rintro v w1 ⟨rfl, hS⟩)
    | (apply OP.callF; rfl; rfl; rfl; show Cl _ 16 _ _ _; exact lenIS hS; clear hS; rintro v w1 ⟨rfl, hS⟩; refine ⟨(by first | exact hS | exact hS.tail | exact hS.sublist (by repeat (first | exact List.Sublist.refl _ | refine .cons_cons _ ?_ | refine .cons _ ?_))), ?_⟩)
    | refine Run.seq ?_
    | refine Run.region ?_
    | (refine RO.split ?_ ?_ <;> intro hc <;> try (first | (exfalso; omega) | exact absurd rfl hc | exact Bool.noConfusion hc))
    | refine RO.nil ?_
    | refine RO.still (by first | (apply Still.move; rfl) | (apply Still.assign; rfl) | (apply Still.load; rfl; rfl; (first | (focus (apply Rd.own; (repeat (first | apply Has.head | apply Has.tail)); done)) | (focus (apply Rd.ro; (repeat (first | apply List.Mem.head | apply List.Mem.tail)); done)) | (focus ((repeat (first | assumption | apply Rd.tail)); done))); (first | rfl | exact flat_get0 (by assumption) | exact flat_get1 (by assumption) | exact flat_get2 (by assumption) | exact flat_get3 (by assumption) | exact flat_get4 (by assumption))) | (apply Still.fieldAddr; rfl; (first | exact Eq.refl (some 0) | exact Eq.refl (some 1) | exact Eq.refl (some 2) | exact Eq.refl (some 3) | exact Eq.refl (some 4) | exact Eq.refl (some 5) | exact Eq.refl (some 6) | exact Eq.refl (some 7) | exact Eq.refl (some 8) | exact Eq.refl (some 9) | exact Eq.refl (some 10) | exact Eq.refl (some 11) | exact offAdd_zero rfl | exact offAdd_of (k := 1) rfl | exact offAdd_of (k := 2) rfl | exact offAdd_of (k := 3) rfl | exact offAdd_of (k := 4) rfl | exact offAdd_of (k := 5) rfl | exact offAdd_of (k := 6) rfl | exact offAdd_of (k := 7) rfl | exact offAdd_of (k := 8) rfl | exact offAdd_of (k := 9) rfl | exact offAdd_of (k := 10) rfl | exact offAdd_of (k := 11) rfl | rfl)) | (apply Still.nilCheck; rfl) | (apply Still.extract; rfl; rfl) | (apply Still.loadAgg; rfl; rfl; (first | exact Eq.refl (some 0) | exact Eq.refl (some 1) | exact Eq.refl (some 2) | exact Eq.refl (some 3) | exact Eq.refl (some 4) | exact Eq.refl (some 5) | exact Eq.refl (some 6) | exact Eq.refl (some 7) | exact Eq.refl (some 8) | exact Eq.refl (some 9) | exact Eq.refl (some 10) | exact Eq.refl (some 11) | exact offAdd_zero rfl | exact offAdd_of (k := 1) rfl | exact offAdd_of (k := 2) rfl | exact offAdd_of (k := 3) rfl | exact offAdd_of (k := 4) rfl | exact offAdd_of (k := 5) rfl | exact offAdd_of (k := 6) rfl | exact offAdd_of (k := 7) rfl | exact offAdd_of (k := 8) rfl | exact offAdd_of (k := 9) rfl | exact offAdd_of (k := 10) rfl | exact offAdd_of (k := 11) rfl | rfl); (first | (focus (apply Rd.own; (repeat (first | apply Has.head | apply Has.tail)); done)) | (focus (apply Rd.ro; (repeat (first | apply List.Mem.head | apply List.Mem.tail)); done)) | (focus ((repeat (first | assumption | apply Rd.tail)); done))); (first | exact flat_take (by assumption) | rfl); rfl) | (apply Still.pickT; rfl; rfl) | (apply Still.pickF; rfl; rfl) | (apply Still.lss; rfl; rfl) | (apply Still.leq; rfl; rfl) | (apply Still.gtr; rfl; rfl) | (apply Still.geq; rfl; rfl) | (apply Still.eql; rfl; rfl) | (apply Still.neq; rfl; rfl) | (apply Still.not; rfl; rfl) | (apply Still.add; rfl; rfl; (first | exact wrap_i64 (by omega) (by omega) | exact wrap_u64 (by omega) (by omega) | rfl)) | (apply Still.sub; rfl; rfl; (first | exact wrap_i64 (by omega) (by omega) | exact wrap_u64 (by omega) (by omega) | rfl)) | (apply Still.mul; rfl; rfl; (first | exact wrap_i64 (by omega) (by omega) | exact wrap_u64 (by omega) (by omega) | rfl)) | (apply Still.makeFunc; rfl; rfl) | (apply Still.lenSlice; rfl; rfl) | (apply Still.lenString; rfl; rfl) | (apply Still.build; rfl; rfl) | (apply Still.indexAddr; rfl; rfl; rfl; (first | exact Eq.refl (some 0) | exact Eq.refl (some 1) | exact Eq.refl (some 2) | exact Eq.refl (some 3) | exact Eq.refl (some 4) | exact Eq.refl (some 5) | exact Eq.refl (some 6) | exact Eq.refl (some 7) | exact Eq.refl (some 8) | exact Eq.refl (some 9) | exact Eq.refl (some 10) | exact Eq.refl (some 11) | exact offAdd_zero rfl | exact offAdd_of (k := 1) rfl | exact offAdd_of (k := 2) rfl | exact offAdd_of (k := 3) rfl | exact offAdd_of (k := 4) rfl | exact offAdd_of (k := 5) rfl | exact offAdd_of (k := 6) rfl | exact offAdd_of (k := 7) rfl | exact offAdd_of (k := 8) rfl | exact offAdd_of (k := 9) rfl | exact offAdd_of (k := 10) rfl | exact offAdd_of (k := 11) rfl | rfl); omega; omega; (first | (simp only [Int.toNat_natCast, Nat.mul_one, Nat.zero_add, Int.reduceToNat, Nat.reduceMul, Nat.reduceAdd, Nat.zero_mul]; exact rfl) | rfl)) | (apply Still.eqlB; rfl; rfl; rfl) | (apply Still.neqB; rfl; rfl; rfl) | (apply Still.eqlS; rfl; rfl) | (apply Still.neqS; rfl; rfl) | (apply Still.nilCheckF; rfl) | (apply Still.index; rfl; rfl; rfl; rfl; (first | exact Eq.refl (some 0) | exact Eq.refl (some 1) | exact Eq.refl (some 2) | exact Eq.refl (some 3) | exact Eq.refl (some 4) | exact Eq.refl (some 5) | exact Eq.refl (some 6) | exact Eq.refl (some 7) | exact Eq.refl (some 8) | exact Eq.refl (some 9) | exact Eq.refl (some 10) | exact Eq.refl (some 11) | exact offAdd_zero rfl | exact offAdd_of (k := 1) rfl | exact offAdd_of (k := 2) rfl | exact offAdd_of (k := 3) rfl | exact offAdd_of (k := 4) rfl | exact offAdd_of (k := 5) rfl | exact offAdd_of (k := 6) rfl | exact offAdd_of (k := 7) rfl | exact offAdd_of (k := 8) rfl | exact offAdd_of (k := 9) rfl | exact offAdd_of (k := 10) rfl | exact offAdd_of (k := 11) rfl | rfl); omega; omega; (first | (simp only [Int.toNat_natCast, Nat.mul_one, Nat.zero_add, Int.reduceToNat, Nat.reduceMul, Nat.reduceAdd, Nat.zero_mul]; exact rfl) | rfl); rfl) | (apply Still.sliceNil; rfl; rfl; rfl; rfl) | (apply Still.sliceNotNil; rfl; rfl; rfl; rfl) | (apply Still.mapNil; rfl; rfl; rfl; rfl) | (apply Still.ptrNil; rfl; rfl; rfl; rfl) | (apply Still.makeInterface; rfl; rfl) | (apply Still.assertMap; rfl; rfl) | (apply Still.maxI; rfl; rfl; rfl) | (apply Still.minI; rfl; rfl; rfl)) hS rfl ?_
    | (apply RO.op; apply OP.box hS; rfl; rfl; rfl; clear hS; intro b w1 hS)
    | (apply RO.op; apply OP.alloc hS; rfl; rfl; rfl; clear hS; intro b w1 hS)
    | (apply RO.op; apply OP.store hS; rfl; rfl; rfl; rfl; rfl; (focus ((repeat (first | apply Has.head | apply Take.head | apply Put.head | apply Has.tail | apply Take.tail | apply Put.tail)); done)); rfl; rfl; clear hS; intro w1 hS)
    | (apply RO.op; apply OP.buildSlice hS; rfl; rfl; (first | exact Eq.refl (some 0) | exact Eq.refl (some 1) | exact Eq.refl (some 2) | exact Eq.refl (some 3) | exact Eq.refl (some 4) | exact Eq.refl (some 5) | exact Eq.refl (some 6) | exact Eq.refl (some 7) | exact Eq.refl (some 8) | exact Eq.refl (some 9) | exact Eq.refl (some 10) | exact Eq.refl (some 11) | exact offAdd_zero rfl | exact offAdd_of (k := 1) rfl | exact offAdd_of (k := 2) rfl | exact offAdd_of (k := 3) rfl | exact offAdd_of (k := 4) rfl | exact offAdd_of (k := 5) rfl | exact offAdd_of (k := 6) rfl | exact offAdd_of (k := 7) rfl | exact offAdd_of (k := 8) rfl | exact offAdd_of (k := 9) rfl | exact offAdd_of (k := 10) rfl | exact offAdd_of (k := 11) rfl | rfl); rfl; rfl; rfl; rfl; rfl; clear hS; intro b w1 hS)
    | (apply RO.op; apply OP.makeMap hS; rfl; clear hS; intro b w1 hS)
    | refine RO.yes rfl rfl ?_
    | refine RO.no rfl rfl rfl rfl ?_
    | refine RO.noUndef rfl rfl rfl ?_
    | refine RO.noNone rfl rfl rfl ?_
    | refine Run.cond_true rfl ?_
    | refine Run.cond_false rfl ?_
    | refine Run.skip ?_
    | refine Run.block ?_
    | refine Run.inBlock ?_
    | refine Run.exit rfl ?_
  · refine Run.ret Try.func7 rfl (.tmp rfl .nil) ?_
    exact ⟨rfl, hS.picks (by focus ((repeat (first | apply Picks.all | apply Picks.nil | (refine Picks.cons (by repeat (first | apply Take.head | apply Take.tail)) ?_) | apply Picks.drop)); done))⟩
  all_goals exact absurd rfl (by assumption)
end
end Go.Proofs.Ytkcmjjgojpenoaa
