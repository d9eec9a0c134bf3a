/-
  Which of two refs is the greater one: cmp.Compare, cmp.Or, (*Arena).Compare.
-/
import Derived.Test.YthejfodjielahaaArena
import Derived.Test.YthejfodjielahaaMaps
namespace Go.Proofs.Ythejfodjielahaa
set_option maxRecDepth 8000
set_option linter.unusedSimpArgs false
set_option linter.unusedVariables false
open Go Go.RowKit

section
variable {we w : World} {ρ : List (Nat × Obj)} {σ F : List HP} {p lim : Nat} {L : List Nd}

theorem isNaN_int {x : Int} (hS : St we ρ σ w) : Cl Try.prog 61 [.int .i64 x] w fun v w' => v = .bool false ∧ St we ρ σ w' := by
  refine Run.calls1 (n := 6) Try.func61 rfl rfl rfl ?_
  repeat' first
    | refine Run.seq ?_
    | refine Run.region ?_
    | (refine RO.split ?_ ?_ <;> intro hc <;> try (first | (exfalso; omega) | exact absurd rfl hc | exact Bool.noConfusion hc))
    | refine RO.nil ?_
    | refine RO.still (by exact Still.any) hS rfl ?_
    | (apply RO.op; apply OP.box hS; rfl; rfl; rfl; clear hS; intro b w1 hS)
    | (apply RO.op; apply OP.alloc hS; rfl; rfl; rfl; clear hS; intro b w1 hS)
    | (apply RO.op; apply OP.store hS; rfl; rfl; rfl; rfl; rfl; (focus ((repeat (first | apply Has.head | apply Take.head | apply Put.head | apply Has.tail | apply Take.tail | apply Put.tail)); done)); rfl; rfl; clear hS; intro w1 hS)
    | (apply RO.op; apply OP.buildSlice hS; rfl; rfl; (exact eqAuto); rfl; rfl; rfl; rfl; rfl; clear hS; intro b w1 hS)
    | (apply RO.op; apply OP.makeMap hS; rfl; clear hS; intro b w1 hS)
    | refine RO.yes rfl rfl ?_
    | refine RO.no rfl rfl rfl rfl ?_
    | refine RO.noUndef rfl rfl rfl ?_
    | refine RO.noNone rfl rfl rfl ?_
    | refine Run.cond_true rfl ?_
    | refine Run.cond_false rfl ?_
    | refine Run.skip ?_
    | refine Run.block ?_
    | refine Run.inBlock ?_
    | refine Run.exit rfl ?_
  refine Run.ret Try.func61 rfl (.tmp rfl .nil) ?_
  exact ⟨rfl, hS⟩
theorem isNaN_u64 {x : Int} (hS : St we ρ σ w) : Cl Try.prog 62 [.int .u64 x] w fun v w' => v = .bool false ∧ St we ρ σ w' := by
  refine Run.calls1 (n := 6) Try.func62 rfl rfl rfl ?_
  repeat' first
    | refine Run.seq ?_
    | refine Run.region ?_
    | (refine RO.split ?_ ?_ <;> intro hc <;> try (first | (exfalso; omega) | exact absurd rfl hc | exact Bool.noConfusion hc))
    | refine RO.nil ?_
    | refine RO.still (by exact Still.any) hS rfl ?_
    | (apply RO.op; apply OP.box hS; rfl; rfl; rfl; clear hS; intro b w1 hS)
    | (apply RO.op; apply OP.alloc hS; rfl; rfl; rfl; clear hS; intro b w1 hS)
    | (apply RO.op; apply OP.store hS; rfl; rfl; rfl; rfl; rfl; (focus ((repeat (first | apply Has.head | apply Take.head | apply Put.head | apply Has.tail | apply Take.tail | apply Put.tail)); done)); rfl; rfl; clear hS; intro w1 hS)
    | (apply RO.op; apply OP.buildSlice hS; rfl; rfl; (exact eqAuto); rfl; rfl; rfl; rfl; rfl; clear hS; intro b w1 hS)
    | (apply RO.op; apply OP.makeMap hS; rfl; clear hS; intro b w1 hS)
    | refine RO.yes rfl rfl ?_
    | refine RO.no rfl rfl rfl rfl ?_
    | refine RO.noUndef rfl rfl rfl ?_
    | refine RO.noNone rfl rfl rfl ?_
    | refine Run.cond_true rfl ?_
    | refine Run.cond_false rfl ?_
    | refine Run.skip ?_
    | refine Run.block ?_
    | refine Run.inBlock ?_
    | refine Run.exit rfl ?_
  refine Run.ret Try.func62 rfl (.tmp rfl .nil) ?_
  exact ⟨rfl, hS⟩

theorem compare_int {x y : Int} (hS : St we ρ σ w) : Cl Try.prog 55 [.int .i64 x, .int .i64 y] w fun v w' => v = .int .i64 (sgn x y) ∧ St we ρ σ w' := by
  refine Run.calls2 (n := 20) Try.func55 rfl rfl rfl ?_
  repeat' first
    | (apply RO.op; apply OP.callF; rfl; rfl; rfl; exact isNaN_int hS; clear hS; rintro v w1 ⟨rfl, hS⟩)
    | refine Run.seq ?_
    | refine Run.region ?_
    | (refine RO.split ?_ ?_ <;> intro hc <;> try (first | (exfalso; omega) | exact absurd rfl hc | exact Bool.noConfusion hc))
    | refine RO.nil ?_
    | refine RO.still (by exact Still.any) hS rfl ?_
    | (apply RO.op; apply OP.box hS; rfl; rfl; rfl; clear hS; intro b w1 hS)
    | (apply RO.op; apply OP.alloc hS; rfl; rfl; rfl; clear hS; intro b w1 hS)
    | (apply RO.op; apply OP.store hS; rfl; rfl; rfl; rfl; rfl; (focus ((repeat (first | apply Has.head | apply Take.head | apply Put.head | apply Has.tail | apply Take.tail | apply Put.tail)); done)); rfl; rfl; clear hS; intro w1 hS)
    | (apply RO.op; apply OP.buildSlice hS; rfl; rfl; (exact eqAuto); rfl; rfl; rfl; rfl; rfl; clear hS; intro b w1 hS)
    | (apply RO.op; apply OP.makeMap hS; rfl; clear hS; intro b w1 hS)
    | refine RO.yes rfl rfl ?_
    | refine RO.no rfl rfl rfl rfl ?_
    | refine RO.noUndef rfl rfl rfl ?_
    | refine RO.noNone rfl rfl rfl ?_
    | refine Run.cond_true rfl ?_
    | refine Run.cond_false rfl ?_
    | refine Run.skip ?_
    | refine Run.block ?_
    | refine Run.inBlock ?_
    | refine Run.exit rfl ?_
  all_goals
    refine Run.ret Try.func55 rfl (.tmp rfl .nil) ?_
    refine ⟨?_, hS⟩
    simp only [tup, sgn]
    congr 1
    repeat (first | rw [if_pos (by assumption)] | rw [if_neg (by assumption)])
theorem compare_u64 {x y : Int} (hS : St we ρ σ w) : Cl Try.prog 57 [.int .u64 x, .int .u64 y] w fun v w' => v = .int .i64 (sgn x y) ∧ St we ρ σ w' := by
  refine Run.calls2 (n := 20) Try.func57 rfl rfl rfl ?_
  repeat' first
    | (apply RO.op; apply OP.callF; rfl; rfl; rfl; exact isNaN_u64 hS; clear hS; rintro v w1 ⟨rfl, hS⟩)
    | refine Run.seq ?_
    | refine Run.region ?_
    | (refine RO.split ?_ ?_ <;> intro hc <;> try (first | (exfalso; omega) | exact absurd rfl hc | exact Bool.noConfusion hc))
    | refine RO.nil ?_
    | refine RO.still (by exact Still.any) hS rfl ?_
    | (apply RO.op; apply OP.box hS; rfl; rfl; rfl; clear hS; intro b w1 hS)
    | (apply RO.op; apply OP.alloc hS; rfl; rfl; rfl; clear hS; intro b w1 hS)
    | (apply RO.op; apply OP.store hS; rfl; rfl; rfl; rfl; rfl; (focus ((repeat (first | apply Has.head | apply Take.head | apply Put.head | apply Has.tail | apply Take.tail | apply Put.tail)); done)); rfl; rfl; clear hS; intro w1 hS)
    | (apply RO.op; apply OP.buildSlice hS; rfl; rfl; (exact eqAuto); rfl; rfl; rfl; rfl; rfl; clear hS; intro b w1 hS)
    | (apply RO.op; apply OP.makeMap hS; rfl; clear hS; intro b w1 hS)
    | refine RO.yes rfl rfl ?_
    | refine RO.no rfl rfl rfl rfl ?_
    | refine RO.noUndef rfl rfl rfl ?_
    | refine RO.noNone rfl rfl rfl ?_
    | refine Run.cond_true rfl ?_
    | refine Run.cond_false rfl ?_
    | refine Run.skip ?_
    | refine Run.block ?_
    | refine Run.inBlock ?_
    | refine Run.exit rfl ?_
  all_goals
    refine Run.ret Try.func57 rfl (.tmp rfl .nil) ?_
    refine ⟨?_, hS⟩
    simp only [tup, sgn]
    congr 1
    repeat (first | rw [if_pos (by assumption)] | rw [if_neg (by assumption)])

/-- cmp.Or of two. -/
theorem or_two {x y : Int} {b cap : Nat} {el : TypeId} {fr : Nat × Nat} (hS : St we ρ σ w) (hr : Rd ρ σ b (.cells [.int .i64 x, .int .i64 y].toArray el fr)) :
    Cl Try.prog 56 [.slice (some ⟨b, 0, none⟩) 2 cap] w fun v w' => v = .int .i64 (lx x y) ∧ St we ρ σ w' := by
  refine Run.calls1 (n := 18) Try.func56 rfl rfl rfl ?_
  repeat' first
    | (refine RO.still (Still.load rfl rfl hr rfl) hS rfl ?_)
    | refine Run.loop ?_
    | refine Run.inLoop ?_
    | refine Run.seq ?_
    | refine Run.region ?_
    | (refine RO.split ?_ ?_ <;> intro hc <;> try (first | (exfalso; omega) | exact absurd rfl hc | exact Bool.noConfusion hc))
    | refine RO.nil ?_
    | refine RO.still (by exact Still.any) hS rfl ?_
    | (apply RO.op; apply OP.box hS; rfl; rfl; rfl; clear hS; intro b w1 hS)
    | (apply RO.op; apply OP.alloc hS; rfl; rfl; rfl; clear hS; intro b w1 hS)
    | (apply RO.op; apply OP.store hS; rfl; rfl; rfl; rfl; rfl; (focus ((repeat (first | apply Has.head | apply Take.head | apply Put.head | apply Has.tail | apply Take.tail | apply Put.tail)); done)); rfl; rfl; clear hS; intro w1 hS)
    | (apply RO.op; apply OP.buildSlice hS; rfl; rfl; (exact eqAuto); rfl; rfl; rfl; rfl; rfl; clear hS; intro b w1 hS)
    | (apply RO.op; apply OP.makeMap hS; rfl; clear hS; intro b w1 hS)
    | refine RO.yes rfl rfl ?_
    | refine RO.no rfl rfl rfl rfl ?_
    | refine RO.noUndef rfl rfl rfl ?_
    | refine RO.noNone rfl rfl rfl ?_
    | refine Run.cond_true rfl ?_
    | refine Run.cond_false rfl ?_
    | refine Run.skip ?_
    | refine Run.block ?_
    | refine Run.inBlock ?_
    | refine Run.exit rfl ?_
  all_goals
    refine Run.ret Try.func56 rfl (.tmp rfl .nil) ?_
    refine ⟨?_, hS⟩
    simp only [tup, lx]
    congr 1
    first
      | rw [if_pos (by assumption)]
      | (rw [if_neg (by assumption)]; try omega)
end

def boolOf : Value → Bool
  | .bool b => b
  | _ => false

/-- The keys of a map of bools. -/
theorem bool_keys {k : Bool} {es : List MapEntry} (h : ∀ e ∈ es, e.key = .bool (boolOf e.key)) : KeyIs Try.prog 4 (.bool k) es (fun u => k == boolOf u) := KeyIs.bool rfl h
theorem bool_bits {k : Bool} {es : List MapEntry} (h : ∀ e ∈ es, e.key = .bool (boolOf e.key)) : ∀ e ∈ es, (k == boolOf e.key) = true → Instr.sameBits 10000 e.key (.bool k) = true := by
  intro e he h1
  rw [h e he]
  simp only [Instr.sameBits]
  simp at h1 ⊢
  exact h1.symm

section
variable {we w : World} {ρ : List (Nat × Obj)} {σ F : List HP} {p lim : Nat} {L : List Nd}

set_option maxHeartbeats 2000000 in
theorem compare_any (m : Nat) : ∀ {F : List HP} {x y : Int} {w : World}, 1 ≤ m → (has L x = true → x < m) → (has L y = true → y < m) → St we ρ (Arena p lim L :: F) w →
    Cl Try.prog 47 [.pointer (some ⟨p, 0, none⟩), .int .i64 x, .int .i64 y] w fun v w' => v = .int .i64 (cmp L x y) ∧ St we ρ (Arena p lim L :: F) w' := by
  induction m with
  | zero => intro F x y w h; omega
  | succ m ih =>
    intro F x y w _ hxm hym hS
    refine Run.calls3 (n := 97) Try.func47 rfl rfl rfl ?_
    obtain ⟨g, hS⟩ := arena_good hS
    have hw := g.wf
    repeat' first
      | (apply RO.op; apply OP.callF; rfl; rfl; rfl; exact has_calls (xs := [_]) (hS.take (by focus ((repeat (first | apply Has.head | apply Take.head | apply Put.head | apply Has.tail | apply Take.tail | apply Put.tail)); done))) (by exact Rd.any) ints1 len1; clear hS; rintro v w1 ⟨rfl, hS⟩; refine RO.splitB ?_ ?_ <;> intro hb)
      | (apply RO.op; apply OP.callF; rfl; rfl; rfl; exact has_calls (xs := [_, _]) (hS.take (by focus ((repeat (first | apply Has.head | apply Take.head | apply Put.head | apply Has.tail | apply Take.tail | apply Put.tail)); done))) (by exact Rd.any) ints2 len2; clear hS; rintro v w1 ⟨rfl, hS⟩; refine RO.splitB ?_ ?_ <;> intro hb)
      | (apply RO.op; apply OP.callF; rfl; rfl; rfl; exact compare_int hS; clear hS; rintro v w1 ⟨rfl, hS⟩)
      | (apply RO.op; apply OP.insert hS; rfl; rfl; rfl; rfl; (focus ((repeat (first | apply Has.head | apply Take.head | apply Put.head | apply Has.tail | apply Take.tail | apply Put.tail)); done)); exact bool_keys (by simp [boolOf]); exact bool_bits (by simp [boolOf]); rfl; clear hS; intro w1 hS)
      | (refine RO.still (by apply Still.lookup; rfl; rfl; rfl; rfl; (exact Rd.any); exact bool_keys (by simp [boolOf]); rfl; rfl) hS rfl ?_)
      | refine Run.seq ?_
      | refine Run.region ?_
      | (refine RO.split ?_ ?_ <;> intro hc <;> try (first | (exfalso; omega) | exact absurd rfl hc | exact Bool.noConfusion hc))
      | refine RO.nil ?_
      | refine RO.still (by exact Still.any) hS rfl ?_
      | (apply RO.op; apply OP.box hS; rfl; rfl; rfl; clear hS; intro b w1 hS)
      | (apply RO.op; apply OP.alloc hS; rfl; rfl; rfl; clear hS; intro b w1 hS)
      | (apply RO.op; apply OP.store hS; rfl; rfl; rfl; rfl; rfl; (focus ((repeat (first | apply Has.head | apply Take.head | apply Put.head | apply Has.tail | apply Take.tail | apply Put.tail)); done)); rfl; rfl; clear hS; intro w1 hS)
      | (apply RO.op; apply OP.buildSlice hS; rfl; rfl; (exact eqAuto); rfl; rfl; rfl; rfl; rfl; clear hS; intro b w1 hS)
      | (apply RO.op; apply OP.makeMap hS; rfl; clear hS; intro b w1 hS)
      | refine RO.yes rfl rfl ?_
      | refine RO.no rfl rfl rfl rfl ?_
      | refine RO.noUndef rfl rfl rfl ?_
      | refine RO.noNone rfl rfl rfl ?_
      | refine Run.cond_true rfl ?_
      | refine Run.cond_false rfl ?_
      | refine Run.skip ?_
      | refine Run.block ?_
      | refine Run.inBlock ?_
      | refine Run.exit rfl ?_
    all_goals first
      | (refine Run.ret Try.func47 rfl (.tmp rfl .nil) ?_
         refine ⟨?_, (hS.take (by focus ((repeat (first | apply Has.head | apply Take.head | apply Put.head | apply Has.tail | apply Take.tail | apply Put.tail)); done))).sublist (by (repeat (first | exact List.Sublist.refl _ | refine .cons_cons _ ?_ | refine .cons _ ?_)))⟩
         rw [cmp_eq hw]
         simp_all [tup, found, mfind, boolOf]
         done)
      | skip
    have hx : has L x = true := by simp_all
    have hy : has L y = true := by simp_all
    have hx' := has_iff.1 hx
    have hy' := has_iff.1 hy
    obtain ⟨r, m', cap, spare, g1, g2, g3, g4, hS⟩ := arena_open hS
    refine (Run.regionH_cut (fun z : Nat × Nat => Row z.1 (ndL (nd L x)) 57 :: Row z.2 (ndL (nd L y)) 57 :: ArenaAt p lim L r m' cap spare F)
      (fun z => [(0, .pointer (some ⟨p, 0, none⟩)), (1, .int .i64 x), (2, .int .i64 y), (7, .pointer (some ⟨z.1, 0, none⟩)), (8, .pointer (some ⟨z.2, 0, none⟩))]) hS (List.Sublist.refl _) (by rfl) (by rfl) (by rfl) ?_ ?_)
    · clear hS
      intro w1 hS
      repeat' first
        | (apply RH.take (i := 0) (listed := #[false, false, false, false, false, false, false, false, false, false, false, false, false, false, false, false, false, false]) (listed' := #[true, false, false, false, false, false, false, false, false, false, false, false, false, false, false, false, false, false]); rfl; kernel_rfl; rfl; (apply Still.move; rfl); (first | exact hS | exact hS.tail | exact hS.sublist (by repeat (first | exact List.Sublist.refl _ | refine .cons_cons _ ?_ | refine .cons _ ?_))); rfl)
        | (apply RH.take (i := 1) (listed := #[true, false, false, false, false, false, false, false, false, false, false, false, false, false, false, false, false, false]) (listed' := #[true, true, false, false, false, false, false, false, false, false, false, false, false, false, false, false, false, false]); rfl; kernel_rfl; rfl; (first | (apply Still.nilCheck; rfl) | (apply Still.nilCheckF; rfl)); (first | exact hS | exact hS.tail | exact hS.sublist (by repeat (first | exact List.Sublist.refl _ | refine .cons_cons _ ?_ | refine .cons _ ?_))); rfl)
        | (apply RH.take (i := 2) (listed := #[true, true, false, false, false, false, false, false, false, false, false, false, false, false, false, false, false, false]) (listed' := #[true, true, true, false, false, false, false, false, false, false, false, false, false, false, false, false, false, false]); rfl; kernel_rfl; rfl; (apply Still.fieldAddr; rfl; (exact eqAuto)); (first | exact hS | exact hS.tail | exact hS.sublist (by repeat (first | exact List.Sublist.refl _ | refine .cons_cons _ ?_ | refine .cons _ ?_))); rfl)
        | (apply RH.take (i := 3) (listed := #[true, true, true, false, false, false, false, false, false, false, false, false, false, false, false, false, false, false]) (listed' := #[true, true, true, true, false, false, false, false, false, false, false, false, false, false, false, false, false, false]); rfl; kernel_rfl; rfl; (first | (apply Still.load; rfl; rfl; (exact Rd.any); (first | rfl | exact flat_get0 (by assumption) | exact flat_get1 (by assumption) | exact flat_get2 (by assumption) | exact flat_get3 (by assumption) | exact flat_get4 (by assumption))) | (apply Still.loadAgg; rfl; rfl; (exact eqAuto); (exact Rd.any); (first | exact flat_take (by assumption) | rfl); rfl)); (first | exact hS | exact hS.tail | exact hS.sublist (by repeat (first | exact List.Sublist.refl _ | refine .cons_cons _ ?_ | refine .cons _ ?_))); rfl)
        | (apply RH.take (i := 4) (listed := #[true, true, true, true, false, false, false, false, false, false, false, false, false, false, false, false, false, false]) (listed' := #[true, true, true, true, true, false, false, false, false, false, false, false, false, false, false, false, false, false]); rfl; kernel_rfl; rfl; (apply Still.move; rfl); (first | exact hS | exact hS.tail | exact hS.sublist (by repeat (first | exact List.Sublist.refl _ | refine .cons_cons _ ?_ | refine .cons _ ?_))); rfl)
        | (apply RH.take (i := 5) (listed := #[true, true, true, true, true, false, false, false, false, false, false, false, false, false, false, false, false, false]) (listed' := #[true, true, true, true, true, true, false, false, false, false, false, false, false, false, false, false, false, false]); rfl; kernel_rfl; rfl; (first | (exact Still.any) | (apply Still.indexAddrA; rfl; rfl; rfl; (exact eqAuto); omega; omega; (first | (simp only [Int.toNat_natCast, Nat.mul_one, Nat.zero_add, Int.reduceToNat, Nat.reduceMul, Nat.reduceAdd, Nat.zero_mul]; exact rfl) | rfl))); (first | exact hS | exact hS.tail | exact hS.sublist (by repeat (first | exact List.Sublist.refl _ | refine .cons_cons _ ?_ | refine .cons _ ?_))); rfl)
        | (apply RH.take (i := 6) (listed := #[true, true, true, true, true, true, false, false, false, false, false, false, false, false, false, false, false, false]) (listed' := #[true, true, true, true, true, true, true, false, false, false, false, false, false, false, false, false, false, false]); rfl; kernel_rfl; rfl; (first | (apply Still.load; rfl; rfl; (exact Rd.any); (first | rfl | exact flat_get0 (by assumption) | exact flat_get1 (by assumption) | exact flat_get2 (by assumption) | exact flat_get3 (by assumption) | exact flat_get4 (by assumption))) | (apply Still.loadAgg; rfl; rfl; (exact eqAuto); (exact Rd.any); (first | exact flat_take (by assumption) | rfl); rfl)); (first | exact hS | exact hS.tail | exact hS.sublist (by repeat (first | exact List.Sublist.refl _ | refine .cons_cons _ ?_ | refine .cons _ ?_))); rfl)
        | (apply RH.take (i := 7) (listed := #[true, true, true, true, true, true, true, false, false, false, false, false, false, false, false, false, false, false]) (listed' := #[true, true, true, true, true, true, true, true, false, false, false, false, false, false, false, false, false, false]); rfl; kernel_rfl; rfl; (apply Still.move; rfl); (first | exact hS | exact hS.tail | exact hS.sublist (by repeat (first | exact List.Sublist.refl _ | refine .cons_cons _ ?_ | refine .cons _ ?_))); rfl)
        | (apply RH.take (i := 8) (listed := #[true, true, true, true, true, true, true, true, false, false, false, false, false, false, false, false, false, false]) (listed' := #[true, true, true, true, true, true, true, true, true, false, false, false, false, false, false, false, false, false]); rfl; kernel_rfl; rfl; (first | (apply Still.nilCheck; rfl) | (apply Still.nilCheckF; rfl)); (first | exact hS | exact hS.tail | exact hS.sublist (by repeat (first | exact List.Sublist.refl _ | refine .cons_cons _ ?_ | refine .cons _ ?_))); rfl)
        | (apply RH.take (i := 9) (listed := #[true, true, true, true, true, true, true, true, true, false, false, false, false, false, false, false, false, false]) (listed' := #[true, true, true, true, true, true, true, true, true, true, false, false, false, false, false, false, false, false]); rfl; kernel_rfl; rfl; (apply Still.fieldAddr; rfl; (exact eqAuto)); (first | exact hS | exact hS.tail | exact hS.sublist (by repeat (first | exact List.Sublist.refl _ | refine .cons_cons _ ?_ | refine .cons _ ?_))); rfl)
        | (apply RH.take (i := 10) (listed := #[true, true, true, true, true, true, true, true, true, true, false, false, false, false, false, false, false, false]) (listed' := #[true, true, true, true, true, true, true, true, true, true, true, false, false, false, false, false, false, false]); rfl; kernel_rfl; rfl; (first | (apply Still.load; rfl; rfl; (exact Rd.any); (first | rfl | exact flat_get0 (by assumption) | exact flat_get1 (by assumption) | exact flat_get2 (by assumption) | exact flat_get3 (by assumption) | exact flat_get4 (by assumption))) | (apply Still.loadAgg; rfl; rfl; (exact eqAuto); (exact Rd.any); (first | exact flat_take (by assumption) | rfl); rfl)); (first | exact hS | exact hS.tail | exact hS.sublist (by repeat (first | exact List.Sublist.refl _ | refine .cons_cons _ ?_ | refine .cons _ ?_))); rfl)
        | (apply RH.take (i := 11) (listed := #[true, true, true, true, true, true, true, true, true, true, true, false, false, false, false, false, false, false]) (listed' := #[true, true, true, true, true, true, true, true, true, true, true, true, false, false, false, false, false, false]); rfl; kernel_rfl; rfl; (apply Still.move; rfl); (first | exact hS | exact hS.tail | exact hS.sublist (by repeat (first | exact List.Sublist.refl _ | refine .cons_cons _ ?_ | refine .cons _ ?_))); rfl)
        | (apply RH.take (i := 12) (listed := #[true, true, true, true, true, true, true, true, true, true, true, true, false, false, false, false, false, false]) (listed' := #[true, true, true, true, true, true, true, true, true, true, true, true, true, false, false, false, false, false]); rfl; kernel_rfl; rfl; (first | (exact Still.any) | (apply Still.indexAddrA; rfl; rfl; rfl; (exact eqAuto); omega; omega; (first | (simp only [Int.toNat_natCast, Nat.mul_one, Nat.zero_add, Int.reduceToNat, Nat.reduceMul, Nat.reduceAdd, Nat.zero_mul]; exact rfl) | rfl))); (first | exact hS | exact hS.tail | exact hS.sublist (by repeat (first | exact List.Sublist.refl _ | refine .cons_cons _ ?_ | refine .cons _ ?_))); rfl)
        | (apply RH.take (i := 13) (listed := #[true, true, true, true, true, true, true, true, true, true, true, true, true, false, false, false, false, false]) (listed' := #[true, true, true, true, true, true, true, true, true, true, true, true, true, true, false, false, false, false]); rfl; kernel_rfl; rfl; (first | (apply Still.load; rfl; rfl; (exact Rd.any); (first | rfl | exact flat_get0 (by assumption) | exact flat_get1 (by assumption) | exact flat_get2 (by assumption) | exact flat_get3 (by assumption) | exact flat_get4 (by assumption))) | (apply Still.loadAgg; rfl; rfl; (exact eqAuto); (exact Rd.any); (first | exact flat_take (by assumption) | rfl); rfl)); (first | exact hS | exact hS.tail | exact hS.sublist (by repeat (first | exact List.Sublist.refl _ | refine .cons_cons _ ?_ | refine .cons _ ?_))); rfl)
        | (apply RH.all2 (i1 := 14) (i2 := 15) (listed := #[true, true, true, true, true, true, true, true, true, true, true, true, true, true, false, false, false, false]); kernel_rfl)
        | (apply RI.op (i := 14) (listed := #[true, true, true, true, true, true, true, true, true, true, true, true, true, true, false, false, false, false]) (listed' := #[true, true, true, true, true, true, true, true, true, true, true, true, true, true, true, false, false, false]); rfl; rfl)
        | (apply RI.op (i := 15) (listed := #[true, true, true, true, true, true, true, true, true, true, true, true, true, true, false, false, false, false]) (listed' := #[true, true, true, true, true, true, true, true, true, true, true, true, true, true, false, true, false, false]); rfl; rfl)
        | (apply RH.all1 (i := 15) (listed := #[true, true, true, true, true, true, true, true, true, true, true, true, true, true, true, false, false, false]); kernel_rfl)
        | (apply RI.op (i := 15) (listed := #[true, true, true, true, true, true, true, true, true, true, true, true, true, true, true, false, false, false]) (listed' := #[true, true, true, true, true, true, true, true, true, true, true, true, true, true, true, true, false, false]); rfl; rfl)
        | (apply RH.all1 (i := 16) (listed := #[true, true, true, true, true, true, true, true, true, true, true, true, true, true, true, true, false, false]); kernel_rfl)
        | (apply RI.op (i := 16) (listed := #[true, true, true, true, true, true, true, true, true, true, true, true, true, true, true, true, false, false]) (listed' := #[true, true, true, true, true, true, true, true, true, true, true, true, true, true, true, true, true, false]); rfl; rfl)
        | (apply RH.all1 (i := 17) (listed := #[true, true, true, true, true, true, true, true, true, true, true, true, true, true, true, true, true, false]); kernel_rfl)
        | (apply RI.op (i := 17) (listed := #[true, true, true, true, true, true, true, true, true, true, true, true, true, true, true, true, true, false]) (listed' := #[true, true, true, true, true, true, true, true, true, true, true, true, true, true, true, true, true, true]); rfl; rfl)
        | (apply RH.done (listed := #[true, true, true, true, true, true, true, true, true, true, true, true, true, true, true, true, true, true]); kernel_rfl)
        | (apply RH.all1 (i := 14) (listed := #[true, true, true, true, true, true, true, true, true, true, true, true, true, true, false, true, false, false]); kernel_rfl)
        | (apply RI.op (i := 14) (listed := #[true, true, true, true, true, true, true, true, true, true, true, true, true, true, false, true, false, false]) (listed' := #[true, true, true, true, true, true, true, true, true, true, true, true, true, true, true, true, false, false]); rfl; rfl)
        | (refine RH.split ?_ ?_ <;> intro hc <;> try (first | (exfalso; omega) | exact absurd rfl hc | exact Bool.noConfusion hc))
        | (apply OP.box hS; rfl; rfl; rfl; clear hS; intro b w1 hS; refine ⟨(by first | exact hS | exact hS.tail | exact hS.sublist (by repeat (first | exact List.Sublist.refl _ | refine .cons_cons _ ?_ | refine .cons _ ?_))), ?_⟩)
        | (apply OP.alloc hS; rfl; rfl; rfl; clear hS; intro b w1 hS; refine ⟨(by first | exact hS | exact hS.tail | exact hS.sublist (by repeat (first | exact List.Sublist.refl _ | refine .cons_cons _ ?_ | refine .cons _ ?_))), ?_⟩)
        | (apply OP.store hS; rfl; rfl; rfl; rfl; rfl; (focus ((repeat (first | apply Has.head | apply Take.head | apply Put.head | apply Has.tail | apply Take.tail | apply Put.tail)); done)); rfl; rfl; clear hS; intro w1 hS; refine ⟨(by first | exact hS | exact hS.tail | exact hS.sublist (by repeat (first | exact List.Sublist.refl _ | refine .cons_cons _ ?_ | refine .cons _ ?_))), ?_⟩)
        | (apply OP.buildSlice hS; rfl; rfl; (exact eqAuto); rfl; rfl; rfl; rfl; rfl; clear hS; intro b w1 hS; refine ⟨(by first | exact hS | exact hS.tail | exact hS.sublist (by repeat (first | exact List.Sublist.refl _ | refine .cons_cons _ ?_ | refine .cons _ ?_))), ?_⟩)
        | (apply OP.makeMap hS; rfl; clear hS; intro b w1 hS; refine ⟨(by first | exact hS | exact hS.tail | exact hS.sublist (by repeat (first | exact List.Sublist.refl _ | refine .cons_cons _ ?_ | refine .cons _ ?_))), ?_⟩)
        | (refine OP.still (by exact Still.any) hS rfl ⟨(by first | exact hS | exact hS.tail | exact hS.sublist (by repeat (first | exact List.Sublist.refl _ | refine .cons_cons _ ?_ | refine .cons _ ?_))), ?_⟩)
      all_goals exact ⟨(_, _), (by focus ((repeat (first | exact .nil | refine .cons rfl ?_)); done)), hS.picks (by focus ((repeat (first | apply Picks.all | apply Picks.nil | (refine Picks.cons (by repeat (first | apply Take.head | apply Take.tail)) ?_) | apply Picks.drop)); done))⟩
    · clear hS
      rintro ⟨b1, b2⟩ w1 hS
      repeat (refine Run.seq ?_)
      refine (Run.regionH_cut (fun z : Unit => Row b1 (ndL (nd L x)) 57 :: Row b2 (ndL (nd L y)) 57 :: ArenaAt p lim L r m' cap spare F)
        (fun z => [(0, .pointer (some ⟨p, 0, none⟩)), (1, .int .i64 x), (2, .int .i64 y), (7, .pointer (some ⟨b1, 0, none⟩)), (8, .pointer (some ⟨b2, 0, none⟩)), (9, .int .i64 (lx (sgn (nd L x).k (nd L y).k) (sgn (nd L x).n (nd L y).n)))]) hS (List.Sublist.refl _) (by rfl) (by rfl) (by rfl) ?_ ?_)
      · clear hS
        intro w1 hS
        repeat' first
          | (apply RH.take (i := 0) (listed := #[false, false, false, false, false, false, false, false, false, false, false, false, false]) (listed' := #[true, false, false, false, false, false, false, false, false, false, false, false, false]); rfl; kernel_rfl; rfl; (apply Still.fieldAddr; rfl; (exact eqAuto)); (first | exact hS | exact hS.tail | exact hS.sublist (by repeat (first | exact List.Sublist.refl _ | refine .cons_cons _ ?_ | refine .cons _ ?_))); rfl)
          | (apply RH.take (i := 1) (listed := #[true, false, false, false, false, false, false, false, false, false, false, false, false]) (listed' := #[true, true, false, false, false, false, false, false, false, false, false, false, false]); rfl; kernel_rfl; rfl; (first | (apply Still.load; rfl; rfl; (exact Rd.any); (first | rfl | exact flat_get0 (by assumption) | exact flat_get1 (by assumption) | exact flat_get2 (by assumption) | exact flat_get3 (by assumption) | exact flat_get4 (by assumption))) | (apply Still.loadAgg; rfl; rfl; (exact eqAuto); (exact Rd.any); (first | exact flat_take (by assumption) | rfl); rfl)); (first | exact hS | exact hS.tail | exact hS.sublist (by repeat (first | exact List.Sublist.refl _ | refine .cons_cons _ ?_ | refine .cons _ ?_))); rfl)
          | (apply RH.take (i := 2) (listed := #[true, true, false, false, false, false, false, false, false, false, false, false, false]) (listed' := #[true, true, true, false, false, false, false, false, false, false, false, false, false]); rfl; kernel_rfl; rfl; (apply Still.fieldAddr; rfl; (exact eqAuto)); (first | exact hS | exact hS.tail | exact hS.sublist (by repeat (first | exact List.Sublist.refl _ | refine .cons_cons _ ?_ | refine .cons _ ?_))); rfl)
          | (apply RH.take (i := 3) (listed := #[true, true, true, false, false, false, false, false, false, false, false, false, false]) (listed' := #[true, true, true, true, false, false, false, false, false, false, false, false, false]); rfl; kernel_rfl; rfl; (first | (apply Still.load; rfl; rfl; (exact Rd.any); (first | rfl | exact flat_get0 (by assumption) | exact flat_get1 (by assumption) | exact flat_get2 (by assumption) | exact flat_get3 (by assumption) | exact flat_get4 (by assumption))) | (apply Still.loadAgg; rfl; rfl; (exact eqAuto); (exact Rd.any); (first | exact flat_take (by assumption) | rfl); rfl)); (first | exact hS | exact hS.tail | exact hS.sublist (by repeat (first | exact List.Sublist.refl _ | refine .cons_cons _ ?_ | refine .cons _ ?_))); rfl)
          | (apply RH.take (i := 5) (listed := #[true, true, true, true, false, false, false, false, false, false, false, false, false]) (listed' := #[true, true, true, true, false, true, false, false, false, false, false, false, false]); rfl; kernel_rfl; rfl; (apply Still.fieldAddr; rfl; (exact eqAuto)); (first | exact hS | exact hS.tail | exact hS.sublist (by repeat (first | exact List.Sublist.refl _ | refine .cons_cons _ ?_ | refine .cons _ ?_))); rfl)
          | (apply RH.take (i := 6) (listed := #[true, true, true, true, false, true, false, false, false, false, false, false, false]) (listed' := #[true, true, true, true, false, true, true, false, false, false, false, false, false]); rfl; kernel_rfl; rfl; (first | (apply Still.load; rfl; rfl; (exact Rd.any); (first | rfl | exact flat_get0 (by assumption) | exact flat_get1 (by assumption) | exact flat_get2 (by assumption) | exact flat_get3 (by assumption) | exact flat_get4 (by assumption))) | (apply Still.loadAgg; rfl; rfl; (exact eqAuto); (exact Rd.any); (first | exact flat_take (by assumption) | rfl); rfl)); (first | exact hS | exact hS.tail | exact hS.sublist (by repeat (first | exact List.Sublist.refl _ | refine .cons_cons _ ?_ | refine .cons _ ?_))); rfl)
          | (apply RH.take (i := 7) (listed := #[true, true, true, true, false, true, true, false, false, false, false, false, false]) (listed' := #[true, true, true, true, false, true, true, true, false, false, false, false, false]); rfl; kernel_rfl; rfl; (apply Still.fieldAddr; rfl; (exact eqAuto)); (first | exact hS | exact hS.tail | exact hS.sublist (by repeat (first | exact List.Sublist.refl _ | refine .cons_cons _ ?_ | refine .cons _ ?_))); rfl)
          | (apply RH.take (i := 8) (listed := #[true, true, true, true, false, true, true, true, false, false, false, false, false]) (listed' := #[true, true, true, true, false, true, true, true, true, false, false, false, false]); rfl; kernel_rfl; rfl; (first | (apply Still.load; rfl; rfl; (exact Rd.any); (first | rfl | exact flat_get0 (by assumption) | exact flat_get1 (by assumption) | exact flat_get2 (by assumption) | exact flat_get3 (by assumption) | exact flat_get4 (by assumption))) | (apply Still.loadAgg; rfl; rfl; (exact eqAuto); (exact Rd.any); (first | exact flat_take (by assumption) | rfl); rfl)); (first | exact hS | exact hS.tail | exact hS.sublist (by repeat (first | exact List.Sublist.refl _ | refine .cons_cons _ ?_ | refine .cons _ ?_))); rfl)
          | (apply RH.all1 (i := 4) (listed := #[true, true, true, true, false, true, true, true, true, false, false, false, false]); kernel_rfl)
          | (apply RI.op (i := 4) (listed := #[true, true, true, true, false, true, true, true, true, false, false, false, false]) (listed' := #[true, true, true, true, true, true, true, true, true, false, false, false, false]); rfl; rfl)
          | (apply RH.all1 (i := 9) (listed := #[true, true, true, true, true, true, true, true, true, false, false, false, false]); kernel_rfl)
          | (apply RI.op (i := 9) (listed := #[true, true, true, true, true, true, true, true, true, false, false, false, false]) (listed' := #[true, true, true, true, true, true, true, true, true, true, false, false, false]); rfl; rfl)
          | (apply RH.all1 (i := 10) (listed := #[true, true, true, true, true, true, true, true, true, true, false, false, false]); kernel_rfl)
          | (apply RI.op (i := 10) (listed := #[true, true, true, true, true, true, true, true, true, true, false, false, false]) (listed' := #[true, true, true, true, true, true, true, true, true, true, true, false, false]); rfl; rfl)
          | (apply RH.all1 (i := 11) (listed := #[true, true, true, true, true, true, true, true, true, true, true, false, false]); kernel_rfl)
          | (apply RI.op (i := 11) (listed := #[true, true, true, true, true, true, true, true, true, true, true, false, false]) (listed' := #[true, true, true, true, true, true, true, true, true, true, true, true, false]); rfl; rfl)
          | (apply RH.take (i := 12) (listed := #[true, true, true, true, true, true, true, true, true, true, true, true, false]) (listed' := #[true, true, true, true, true, true, true, true, true, true, true, true, true]); rfl; kernel_rfl; rfl; (apply Still.assign; rfl); (first | exact hS | exact hS.tail | exact hS.sublist (by repeat (first | exact List.Sublist.refl _ | refine .cons_cons _ ?_ | refine .cons _ ?_))); rfl)
          | (apply RH.done (listed := #[true, true, true, true, true, true, true, true, true, true, true, true, true]); kernel_rfl)
          | (apply OP.callF; rfl; rfl; rfl; exact compare_int hS; clear hS; rintro v w1 ⟨rfl, hS⟩; refine ⟨(by first | exact hS | exact hS.tail | exact hS.sublist (by repeat (first | exact List.Sublist.refl _ | refine .cons_cons _ ?_ | refine .cons _ ?_))), ?_⟩)
          | (apply OP.callF; rfl; rfl; rfl; exact compare_u64 hS; clear hS; rintro v w1 ⟨rfl, hS⟩; refine ⟨(by first | exact hS | exact hS.tail | exact hS.sublist (by repeat (first | exact List.Sublist.refl _ | refine .cons_cons _ ?_ | refine .cons _ ?_))), ?_⟩)
          | (apply OP.callF; rfl; rfl; rfl; exact or_two hS (by exact Rd.any); clear hS; rintro v w1 ⟨rfl, hS⟩; refine ⟨(by first | exact hS | exact hS.tail | exact hS.sublist (by repeat (first | exact List.Sublist.refl _ | refine .cons_cons _ ?_ | refine .cons _ ?_))), ?_⟩)
          | (refine RH.split ?_ ?_ <;> intro hc <;> try (first | (exfalso; omega) | exact absurd rfl hc | exact Bool.noConfusion hc))
          | (apply OP.box hS; rfl; rfl; rfl; clear hS; intro b w1 hS; refine ⟨(by first | exact hS | exact hS.tail | exact hS.sublist (by repeat (first | exact List.Sublist.refl _ | refine .cons_cons _ ?_ | refine .cons _ ?_))), ?_⟩)
          | (apply OP.alloc hS; rfl; rfl; rfl; clear hS; intro b w1 hS; refine ⟨(by first | exact hS | exact hS.tail | exact hS.sublist (by repeat (first | exact List.Sublist.refl _ | refine .cons_cons _ ?_ | refine .cons _ ?_))), ?_⟩)
          | (apply OP.store hS; rfl; rfl; rfl; rfl; rfl; (focus ((repeat (first | apply Has.head | apply Take.head | apply Put.head | apply Has.tail | apply Take.tail | apply Put.tail)); done)); rfl; rfl; clear hS; intro w1 hS; refine ⟨(by first | exact hS | exact hS.tail | exact hS.sublist (by repeat (first | exact List.Sublist.refl _ | refine .cons_cons _ ?_ | refine .cons _ ?_))), ?_⟩)
          | (apply OP.buildSlice hS; rfl; rfl; (exact eqAuto); rfl; rfl; rfl; rfl; rfl; clear hS; intro b w1 hS; refine ⟨(by first | exact hS | exact hS.tail | exact hS.sublist (by repeat (first | exact List.Sublist.refl _ | refine .cons_cons _ ?_ | refine .cons _ ?_))), ?_⟩)
          | (apply OP.makeMap hS; rfl; clear hS; intro b w1 hS; refine ⟨(by first | exact hS | exact hS.tail | exact hS.sublist (by repeat (first | exact List.Sublist.refl _ | refine .cons_cons _ ?_ | refine .cons _ ?_))), ?_⟩)
          | (refine OP.still (by exact Still.any) hS rfl ⟨(by first | exact hS | exact hS.tail | exact hS.sublist (by repeat (first | exact List.Sublist.refl _ | refine .cons_cons _ ?_ | refine .cons _ ?_))), ?_⟩)
        all_goals exact ⟨(), (by focus ((repeat (first | exact .nil | refine .cons rfl ?_)); done)), hS.picks (by focus ((repeat (first | apply Picks.all | apply Picks.nil | (refine Picks.cons (by repeat (first | apply Take.head | apply Take.tail)) ?_) | apply Picks.drop)); done))⟩
      · clear hS
        rintro _ w1 hS
        obtain hS := arena_shut g1 g2 g3 g4 (hS.picks (σ' := ArenaAt p lim L r m' cap spare (Row b1 (ndL (nd L x)) 57 :: Row b2 (ndL (nd L y)) 57 :: F)) (by focus ((repeat (first | apply Picks.all | apply Picks.nil | (refine Picks.cons (by repeat (first | apply Take.head | apply Take.tail)) ?_) | apply Picks.drop)); done)))
        have hxm' := hxm hx
        have hym' := hym hy
        have hm1 : 1 ≤ m := by omega
        have small : ∀ a : Int, has L a = true → a < ((m + 1 : Nat) : Int) → (nd L a).a < m ∧ (nd L a).b < m ∧ (nd L a).c < m := fun a ha hm => by
          have h0 := has_iff.1 ha
          by_cases z : a = 0
          · subst z; rw [hw.zero]; simp [Nd.z]; omega
          · have h1 := hw.pa a (by omega) h0.2; have h2 := hw.pb a (by omega) h0.2; have h3 := hw.pc a (by omega) h0.2
            omega
        have bx := small x hx hxm'
        have byy := small y hy hym'
        clear small
        repeat' first
          | (apply RO.op; apply OP.callF; rfl; rfl; rfl; exact ih hm1 (fun _ => by omega) (fun _ => by omega) hS; clear hS; rintro v w1 ⟨rfl, hS⟩)
          | refine Run.loop ?_
          | refine Run.inLoop ?_
          | refine Run.seq ?_
          | refine Run.region ?_
          | (refine RO.split ?_ ?_ <;> intro hc <;> try (first | (exfalso; omega) | exact absurd rfl hc | exact Bool.noConfusion hc))
          | refine RO.nil ?_
          | refine RO.still (by exact Still.any) hS rfl ?_
          | (apply RO.op; apply OP.box hS; rfl; rfl; rfl; clear hS; intro b w1 hS)
          | (apply RO.op; apply OP.alloc hS; rfl; rfl; rfl; clear hS; intro b w1 hS)
          | (apply RO.op; apply OP.store hS; rfl; rfl; rfl; rfl; rfl; (focus ((repeat (first | apply Has.head | apply Take.head | apply Put.head | apply Has.tail | apply Take.tail | apply Put.tail)); done)); rfl; rfl; clear hS; intro w1 hS)
          | (apply RO.op; apply OP.buildSlice hS; rfl; rfl; (exact eqAuto); rfl; rfl; rfl; rfl; rfl; clear hS; intro b w1 hS)
          | (apply RO.op; apply OP.makeMap hS; rfl; clear hS; intro b w1 hS)
          | refine RO.yes rfl rfl ?_
          | refine RO.no rfl rfl rfl rfl ?_
          | refine RO.noUndef rfl rfl rfl ?_
          | refine RO.noNone rfl rfl rfl ?_
          | refine Run.cond_true rfl ?_
          | refine Run.cond_false rfl ?_
          | refine Run.skip ?_
          | refine Run.block ?_
          | refine Run.inBlock ?_
          | refine Run.exit rfl ?_
        all_goals
          refine Run.ret Try.func47 rfl (.tmp rfl .nil) ?_
          refine ⟨?_, hS.picks (by focus ((repeat (first | apply Picks.all | apply Picks.nil | (refine Picks.cons (by repeat (first | apply Take.head | apply Take.tail)) ?_) | apply Picks.drop)); done))⟩
          rw [cmp_eq hw x y, if_neg (by assumption), if_pos ⟨hx, hy⟩, ← lx_assoc]
          simp only [tup]
          congr 1
          simp_all [lx]
end
end Go.Proofs.Ythejfodjielahaa
