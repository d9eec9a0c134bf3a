/-
  The laws' helpers for the layer of ciphers: ciphers held against each other; awake.
-/
import Derived.Test.YtecpehjlpgcmaaaCipher2
import Derived.Test.YtecpehjlpgcmaaaCipher3
import Derived.Test.YtecpehjlpgcmaaaMore
namespace Go.Proofs.Ytecpehjlpgcmaaa
set_option linter.unusedSimpArgs false
set_option linter.unusedVariables false
open Go Go.RowKit

/-- A type whose values are ciphers. -/
structure CphT (T : TypeId) : Prop where
  fields : ∃ f1 f2 f3 : Field, (Try.prog.fieldsOf T).toList = [f1, f2, f3] ∧
    (f1.name ≠ "_" ∧ f1.type = 3 ∧ f1.offset = 0) ∧ (f2.name ≠ "_" ∧ f2.type = 4 ∧ f2.offset = 1) ∧ (f3.name ≠ "_" ∧ f3.type = 23 ∧ f3.offset = 2)
  under : Try.prog.underlying T = some (.struct (Try.prog.fieldsOf T))
  stood : Try.prog.stoodInHeld T = false
  guard : Try.prog.eqGuardType Try.prog.depth T = false
theorem cphT : CphT 25 := ⟨⟨_, _, _, rfl, ⟨by decide, rfl, rfl⟩, ⟨by decide, rfl, rfl⟩, ⟨by decide, rfl, rfl⟩⟩, rfl, by kernel_rfl, by kernel_rfl⟩
theorem cphT2 : CphT 44 := ⟨⟨_, _, _, rfl, ⟨by decide, rfl, rfl⟩, ⟨by decide, rfl, rfl⟩, ⟨by decide, rfl, rfl⟩⟩, rfl, by kernel_rfl, by kernel_rfl⟩
theorem part_bool {xs : Array Value} {off : Nat} {v : Value} {w : World} (h : xs[off]? = some v) : (part 4 xs off).run Try.prog w = .ok v w := run_part_plain w (by rfl) h

theorem cph_equal_of {T : TypeId} (hT : CphT T) {n m : Cph} {w : World} : (Op.equal T (cphV n) (cphV m)).run Try.prog w = .ok (decide (n = m)) w := by
  have he : (Op.equal T (cphV n) (cphV m)).run Try.prog w = (Op.eqFields 9999 (cphL n).toArray (cphL m).toArray (Try.prog.fieldsOf T).toList).run Try.prog w := run_equalIn_struct w 9999 T _ _ hT.under hT.stood
  rw [he]
  obtain ⟨f1, f2, f3, hf, ⟨a1, a2, a3⟩, ⟨b1, b2, b3⟩, ⟨c1, c2, c3⟩⟩ := hT.fields
  rw [hf]
  have pi : ∀ (x y : Int), (Op.equalIn (9998 + 1) 3 (.int .i64 x) (.int .i64 y)).run Try.prog w = .ok (x == y) w := fun x y => int_equal rfl
  have pb : ∀ (x y : Bool), (Op.equalIn (9998 + 1) 4 (.bool x) (.bool y)).run Try.prog w = .ok (x == y) w := fun x y => run_equalIn_bool w 9998 4 x y rfl
  have pu : ∀ (x y : Int), (Op.equalIn (9998 + 1) 23 (.int .u64 x) (.int .u64 y)).run Try.prog w = .ok (x == y) w := fun x y => int_equal rfl
  have h0 : ∀ n : Cph, (part 3 (cphL n).toArray 0).run Try.prog w = .ok (.int .i64 n.key) w := fun n => part_int rfl
  have h1 : ∀ n : Cph, (part 4 (cphL n).toArray 1).run Try.prog w = .ok (.bool n.has) w := fun n => part_bool rfl
  have h2 : ∀ n : Cph, (part 23 (cphL n).toArray 2).run Try.prog w = .ok (.int .u64 n.n) w := fun n => part_u64 rfl
  simp only [Op.eqFields, a1, a2, a3, b1, b2, b3, c1, c2, c3, if_pos, ne_eq, not_false_eq_true, Sem.run_bind, h0, h1, h2, Result.andThen_ok, pi, pb, pu, Sem.run_ite, Sem.run_pure]
  obtain ⟨k, x, a⟩ := n
  obtain ⟨k', x', a'⟩ := m
  simp only [Cph.mk.injEq]
  by_cases q1 : k = k' <;> by_cases q2 : x = x' <;> by_cases q3 : a = a' <;> simp [q1, q2, q3]

section
variable {n : Nat} {e : Env} {ty t' : TypeId} {x y : Operand} {S : World → Prop} {T : TypeId} {a b : Cph}
theorem Still.eqlCph (hT : CphT T) (hx : ev e x = some (cphV a)) (hy : ev e y = some (cphV b)) : Still Try.prog n e S (.binOp .eql T x y t') ty (.bool (decide (a = b))) :=
  Still.bin hx hy (fun w => run_eqGuard_agg w .eql T x y _ _ hT.guard) (fun w _ => by simp [binOp, cphV, show (Op.equal T (.agg (cphL a).toArray) (.agg (cphL b).toArray)).run Try.prog w = _ from cph_equal_of hT])
theorem Still.neqCph (hT : CphT T) (hx : ev e x = some (cphV a)) (hy : ev e y = some (cphV b)) : Still Try.prog n e S (.binOp .neq T x y t') ty (.bool (decide (a ≠ b))) :=
  Still.bin hx hy (fun w => run_eqGuard_agg w .neq T x y _ _ hT.guard) (fun w _ => by simp [binOp, cphV, show (Op.equal T (.agg (cphL a).toArray) (.agg (cphL b).toArray)).run Try.prog w = _ from cph_equal_of hT])
end
theorem cph_ne (c : Cph) : decide (c ≠ c) = false := by simp
theorem cph_eq (c : Cph) : decide (c = c) = true := by simp

section
variable {we w : World} {ρ : List (Nat × Obj)} {σ F : List HP} {p lim : Nat} {L L' : List Nd} {a : Value} {c d : Cph} {ad x y e : Int}

theorem seal_is (h : cseal lim L c ad x = (L', d, y, e)) (hS : St we ρ (Arena p lim L :: F) w) :
    Cl Try.prog 12 [cphV c, .pointer (some ⟨p, 0, none⟩), .int .i64 ad, .int .i64 x] w fun v w' => v = .tuple #[cphV d, .int .i64 y, .int .i64 e] ∧ St we ρ (Arena p lim L' :: F) w' := by
  have := seal_calls (c := c) (ad := ad) (x := x) hS
  rwa [h] at this
theorem open_is (h : copen L c ad x = (d, y, e)) (hS : St we ρ (Arena p lim L :: F) w) :
    Cl Try.prog 13 [cphV c, .pointer (some ⟨p, 0, none⟩), .int .i64 ad, .int .i64 x] w fun v w' => v = .tuple #[cphV d, .int .i64 y, .int .i64 e] ∧ St we ρ (Arena p lim L :: F) w' := by
  have := open_calls (c := c) (ad := ad) (x := x) hS
  rwa [h] at this
theorem crefSeal_is (h : cseal lim L c ad x = (L', d, y, e)) (hS : St we ρ (RA a lim L :: F) w) :
    Cl Try.prog 17 [a, cphV c, .int .i64 ad, .int .i64 x] w fun v w' => ∃ a', v = .tuple #[a', cphV d, .int .i64 y, .int .i64 e] ∧ St we ρ (RA a' lim L' :: F) w' := by
  have := crefSeal (c := c) (ad := ad) (x := x) hS
  rwa [h] at this
theorem crefOpen_is (h : copen L c ad x = (d, y, e)) (hS : St we ρ (RA a lim L :: F) w) :
    Cl Try.prog 20 [a, cphV c, .int .i64 ad, .int .i64 x] w fun v w' => v = .tuple #[cphV d, .int .i64 y, .int .i64 e] ∧ St we ρ (RA a lim L :: F) w' := by
  have := crefOpen (c := c) (ad := ad) (x := x) hS
  rwa [h] at this
theorem rekey_is (h : crekey lim L c = (L', d, e)) (hS : St we ρ (Arena p lim L :: F) w) :
    Cl Try.prog 23 [cphV c, .pointer (some ⟨p, 0, none⟩)] w fun v w' => v = .tuple #[cphV d, .int .i64 e] ∧ St we ρ (Arena p lim L' :: F) w' := by
  have := rekey_calls (c := c) hS
  rwa [h] at this
theorem crefRekey_is (h : crekey lim L c = (L', d, e)) (hS : St we ρ (RA a lim L :: F) w) :
    Cl Try.prog 24 [a, cphV c] w fun v w' => ∃ a', v = .tuple #[a', cphV d, .int .i64 e] ∧ St we ρ (RA a' lim L' :: F) w' := by
  have := crefRekey (c := c) hS
  rwa [h] at this
theorem cseal_bad (h : cseal lim L c ad x = (L', d, y, e)) (he : e ≠ 0) : d = .z ∧ y = 0 ∧ L' = L := by
  unfold cseal at h
  split at h
  · simp only [Prod.mk.injEq] at h; exact ⟨h.2.1.symm, h.2.2.1.symm, h.1.symm⟩
  · split at h
    · simp only [Prod.mk.injEq] at h; exact absurd h.2.2.2.symm he
    · split at h
      · simp only [Prod.mk.injEq] at h; exact ⟨h.2.1.symm, h.2.2.1.symm, h.1.symm⟩
      · simp only [Prod.mk.injEq] at h; exact absurd h.2.2.2.symm he

def wk10 : Nat → List Nd
  | 0 => [Nd.z]
  | 1 => [Nd.z, ⟨1, 1, 0, 0, 0⟩]
  | 2 => [Nd.z, ⟨1, 1, 0, 0, 0⟩, ⟨1, 2, 0, 0, 0⟩]
  | 3 => [Nd.z, ⟨1, 1, 0, 0, 0⟩, ⟨1, 2, 0, 0, 0⟩, ⟨7, 0, 1, 0, 2⟩]
  | _ => [Nd.z, ⟨1, 1, 0, 0, 0⟩, ⟨1, 2, 0, 0, 0⟩, ⟨7, 0, 1, 0, 2⟩, ⟨7, 1, 1, 0, 2⟩]
theorem wk1 : mk 20 (wk10 0) ⟨1, 1, 0, 0, 0⟩ = (wk10 1, 1, 0) := by kernel_rfl
theorem wk2 : mk 20 (wk10 1) ⟨1, 2, 0, 0, 0⟩ = (wk10 2, 2, 0) := by kernel_rfl
theorem wk3 : cseal 20 (wk10 2) ⟨1, true, 0⟩ 0 2 = (wk10 3, ⟨1, true, 1⟩, 3, 0) := by kernel_rfl
theorem wk4 : cseal 20 (wk10 3) ⟨1, true, 1⟩ 0 2 = (wk10 4, ⟨1, true, 2⟩, 4, 0) := by kernel_rfl
theorem wk5 : copen (wk10 4) ⟨1, true, 0⟩ 0 3 = (⟨1, true, 1⟩, 2, 0) := by kernel_rfl
theorem wk6 : copen (wk10 4) ⟨1, true, 0⟩ 0 4 = (.z, 0, 7) := by kernel_rfl

set_option maxHeartbeats 4000000 in
theorem awake_calls (hS : St we ρ σ w) : Cl Try.prog 10 [] w fun v w' => v = .bool true ∧ St we ρ σ w' := by
  refine Run.calls0 (n := 101) Try.func10 rfl rfl ?_
  repeat' first
    | (apply RO.op; apply OP.callF; rfl; rfl; rfl; show Cl _ 21 _ _ _; exact new_calls hS; clear hS; rintro v w1 ⟨p, rfl, hS⟩; replace hS : St we ρ (Arena p 20 (wk10 0) :: σ) w1 := hS)
    | (apply OP.callF; rfl; rfl; rfl; show Cl _ 21 _ _ _; exact new_calls hS; clear hS; rintro v w1 ⟨p, rfl, hS⟩; replace hS : St we ρ (Arena p 20 (wk10 0) :: σ) w1 := hS; refine ⟨(by first | exact hS | exact hS.tail | exact hS.sublist (by repeat (first | exact List.Sublist.refl _ | refine .cons_cons _ ?_ | refine .cons _ ?_))), ?_⟩)
    | (apply RO.op; apply OP.callF; rfl; rfl; rfl; show Cl _ 22 _ _ _; (first | (apply mk_is wk1; exact hS) | (apply mk_is wk2; exact hS)); clear hS; rintro v w1 ⟨rfl, hS⟩)
    | (apply RO.op; apply OP.callF; rfl; rfl; rfl; show Cl _ 15 _ _ _; exact cnew_calls hS; clear hS; rintro v w1 ⟨rfl, hS⟩)
    | (apply OP.callF; rfl; rfl; rfl; show Cl _ 15 _ _ _; exact cnew_calls hS; clear hS; rintro v w1 ⟨rfl, hS⟩; refine ⟨(by first | exact hS | exact hS.tail | exact hS.sublist (by repeat (first | exact List.Sublist.refl _ | refine .cons_cons _ ?_ | refine .cons _ ?_))), ?_⟩)
    | (apply RO.op; apply OP.callF; rfl; rfl; rfl; show Cl _ 12 _ _ _; (first | (apply seal_is wk3; apply hS.take; (focus ((repeat (first | apply Has.head | apply Take.head | apply Put.head | apply Has.tail | apply Take.tail | apply Put.tail)); done))) | (apply seal_is wk4; apply hS.take; (focus ((repeat (first | apply Has.head | apply Take.head | apply Put.head | apply Has.tail | apply Take.tail | apply Put.tail)); done)))); clear hS; rintro v w1 ⟨rfl, hS⟩)
    | (apply RO.op; apply OP.callF; rfl; rfl; rfl; show Cl _ 13 _ _ _; (first | (apply open_is wk5; apply hS.take; (focus ((repeat (first | apply Has.head | apply Take.head | apply Put.head | apply Has.tail | apply Take.tail | apply Put.tail)); done))) | (apply open_is wk6; apply hS.take; (focus ((repeat (first | apply Has.head | apply Take.head | apply Put.head | apply Has.tail | apply Take.tail | apply Put.tail)); done)))); clear hS; rintro v w1 ⟨rfl, hS⟩)
    | refine Run.seq ?_
    | refine Run.region ?_
    | (refine RO.split ?_ ?_ <;> intro hc <;> try (first | (exfalso; omega) | exact absurd rfl hc | exact Bool.noConfusion hc))
    | refine RO.nil ?_
    | refine RO.still (by first | (apply Still.move; rfl) | (apply Still.assign; rfl) | (apply Still.load; rfl; rfl; (first | (focus (apply Rd.own; (repeat (first | apply Has.head | apply Has.tail)); done)) | (focus (apply Rd.ro; (repeat (first | apply List.Mem.head | apply List.Mem.tail)); done)) | (focus ((repeat (first | assumption | apply Rd.tail)); done))); (first | rfl | exact flat_get0 (by assumption) | exact flat_get1 (by assumption) | exact flat_get2 (by assumption) | exact flat_get3 (by assumption) | exact flat_get4 (by assumption))) | (apply Still.fieldAddr; rfl; (first | exact Eq.refl (some 0) | exact Eq.refl (some 1) | exact Eq.refl (some 2) | exact Eq.refl (some 3) | exact Eq.refl (some 4) | exact Eq.refl (some 5) | exact Eq.refl (some 6) | exact Eq.refl (some 7) | exact Eq.refl (some 8) | exact Eq.refl (some 9) | exact Eq.refl (some 10) | exact Eq.refl (some 11) | exact offAdd_zero rfl | exact offAdd_of (k := 1) rfl | exact offAdd_of (k := 2) rfl | exact offAdd_of (k := 3) rfl | exact offAdd_of (k := 4) rfl | exact offAdd_of (k := 5) rfl | exact offAdd_of (k := 6) rfl | exact offAdd_of (k := 7) rfl | exact offAdd_of (k := 8) rfl | exact offAdd_of (k := 9) rfl | exact offAdd_of (k := 10) rfl | exact offAdd_of (k := 11) rfl | rfl)) | (apply Still.nilCheck; rfl) | (apply Still.extract; rfl; rfl) | (apply Still.loadAgg; rfl; rfl; (first | exact Eq.refl (some 0) | exact Eq.refl (some 1) | exact Eq.refl (some 2) | exact Eq.refl (some 3) | exact Eq.refl (some 4) | exact Eq.refl (some 5) | exact Eq.refl (some 6) | exact Eq.refl (some 7) | exact Eq.refl (some 8) | exact Eq.refl (some 9) | exact Eq.refl (some 10) | exact Eq.refl (some 11) | exact offAdd_zero rfl | exact offAdd_of (k := 1) rfl | exact offAdd_of (k := 2) rfl | exact offAdd_of (k := 3) rfl | exact offAdd_of (k := 4) rfl | exact offAdd_of (k := 5) rfl | exact offAdd_of (k := 6) rfl | exact offAdd_of (k := 7) rfl | exact offAdd_of (k := 8) rfl | exact offAdd_of (k := 9) rfl | exact offAdd_of (k := 10) rfl | exact offAdd_of (k := 11) rfl | rfl); (first | (focus (apply Rd.own; (repeat (first | apply Has.head | apply Has.tail)); done)) | (focus (apply Rd.ro; (repeat (first | apply List.Mem.head | apply List.Mem.tail)); done)) | (focus ((repeat (first | assumption | apply Rd.tail)); done))); (first | exact flat_take (by assumption) | rfl); rfl) | (apply Still.pickT; rfl; rfl) | (apply Still.pickF; rfl; rfl) | (apply Still.lss; rfl; rfl) | (apply Still.leq; rfl; rfl) | (apply Still.gtr; rfl; rfl) | (apply Still.geq; rfl; rfl) | (apply Still.eql; rfl; rfl) | (apply Still.neq; rfl; rfl) | (apply Still.not; rfl; rfl) | (apply Still.add; rfl; rfl; (first | exact wrap_i64 (by omega) (by omega) | exact wrap_u64 (by omega) (by omega) | rfl)) | (apply Still.sub; rfl; rfl; (first | exact wrap_i64 (by omega) (by omega) | exact wrap_u64 (by omega) (by omega) | rfl)) | (apply Still.mul; rfl; rfl; (first | exact wrap_i64 (by omega) (by omega) | exact wrap_u64 (by omega) (by omega) | rfl)) | (apply Still.makeFunc; rfl; rfl) | (apply Still.lenSlice; rfl; rfl) | (apply Still.lenString; rfl; rfl) | (apply Still.build; rfl; rfl) | (apply Still.indexAddr; rfl; rfl; rfl; (first | exact Eq.refl (some 0) | exact Eq.refl (some 1) | exact Eq.refl (some 2) | exact Eq.refl (some 3) | exact Eq.refl (some 4) | exact Eq.refl (some 5) | exact Eq.refl (some 6) | exact Eq.refl (some 7) | exact Eq.refl (some 8) | exact Eq.refl (some 9) | exact Eq.refl (some 10) | exact Eq.refl (some 11) | exact offAdd_zero rfl | exact offAdd_of (k := 1) rfl | exact offAdd_of (k := 2) rfl | exact offAdd_of (k := 3) rfl | exact offAdd_of (k := 4) rfl | exact offAdd_of (k := 5) rfl | exact offAdd_of (k := 6) rfl | exact offAdd_of (k := 7) rfl | exact offAdd_of (k := 8) rfl | exact offAdd_of (k := 9) rfl | exact offAdd_of (k := 10) rfl | exact offAdd_of (k := 11) rfl | rfl); omega; omega; (first | (simp only [Int.toNat_natCast, Nat.mul_one, Nat.zero_add, Int.reduceToNat, Nat.reduceMul, Nat.reduceAdd, Nat.zero_mul]; exact rfl) | rfl)) | (apply Still.eqlB; rfl; rfl; rfl) | (apply Still.neqB; rfl; rfl; rfl) | (apply Still.eqlS; rfl; rfl) | (apply Still.neqS; rfl; rfl) | (apply Still.nilCheckF; rfl) | (apply Still.index; rfl; rfl; rfl; rfl; (first | exact Eq.refl (some 0) | exact Eq.refl (some 1) | exact Eq.refl (some 2) | exact Eq.refl (some 3) | exact Eq.refl (some 4) | exact Eq.refl (some 5) | exact Eq.refl (some 6) | exact Eq.refl (some 7) | exact Eq.refl (some 8) | exact Eq.refl (some 9) | exact Eq.refl (some 10) | exact Eq.refl (some 11) | exact offAdd_zero rfl | exact offAdd_of (k := 1) rfl | exact offAdd_of (k := 2) rfl | exact offAdd_of (k := 3) rfl | exact offAdd_of (k := 4) rfl | exact offAdd_of (k := 5) rfl | exact offAdd_of (k := 6) rfl | exact offAdd_of (k := 7) rfl | exact offAdd_of (k := 8) rfl | exact offAdd_of (k := 9) rfl | exact offAdd_of (k := 10) rfl | exact offAdd_of (k := 11) rfl | rfl); omega; omega; (first | (simp only [Int.toNat_natCast, Nat.mul_one, Nat.zero_add, Int.reduceToNat, Nat.reduceMul, Nat.reduceAdd, Nat.zero_mul]; exact rfl) | rfl); rfl) | (apply Still.sliceNil; rfl; rfl; rfl; rfl) | (apply Still.sliceNotNil; rfl; rfl; rfl; rfl) | (apply Still.mapNil; rfl; rfl; rfl; rfl) | (apply Still.ptrNil; rfl; rfl; rfl; rfl) | (apply Still.makeInterface; rfl; rfl) | (apply Still.assertMap; rfl; rfl) | (apply Still.maxI; rfl; rfl; rfl) | (apply Still.minI; rfl; rfl; rfl)) hS rfl ?_
    | (apply RO.op; apply OP.box hS; rfl; rfl; rfl; clear hS; intro b w1 hS)
    | (apply RO.op; apply OP.alloc hS; rfl; rfl; rfl; clear hS; intro b w1 hS)
    | (apply RO.op; apply OP.store hS; rfl; rfl; rfl; rfl; rfl; (focus ((repeat (first | apply Has.head | apply Take.head | apply Put.head | apply Has.tail | apply Take.tail | apply Put.tail)); done)); rfl; rfl; clear hS; intro w1 hS)
    | (apply RO.op; apply OP.buildSlice hS; rfl; rfl; (first | exact Eq.refl (some 0) | exact Eq.refl (some 1) | exact Eq.refl (some 2) | exact Eq.refl (some 3) | exact Eq.refl (some 4) | exact Eq.refl (some 5) | exact Eq.refl (some 6) | exact Eq.refl (some 7) | exact Eq.refl (some 8) | exact Eq.refl (some 9) | exact Eq.refl (some 10) | exact Eq.refl (some 11) | exact offAdd_zero rfl | exact offAdd_of (k := 1) rfl | exact offAdd_of (k := 2) rfl | exact offAdd_of (k := 3) rfl | exact offAdd_of (k := 4) rfl | exact offAdd_of (k := 5) rfl | exact offAdd_of (k := 6) rfl | exact offAdd_of (k := 7) rfl | exact offAdd_of (k := 8) rfl | exact offAdd_of (k := 9) rfl | exact offAdd_of (k := 10) rfl | exact offAdd_of (k := 11) rfl | rfl); rfl; rfl; rfl; rfl; rfl; clear hS; intro b w1 hS)
    | (apply RO.op; apply OP.makeMap hS; rfl; clear hS; intro b w1 hS)
    | refine RO.yes rfl rfl ?_
    | refine RO.no rfl rfl rfl rfl ?_
    | refine RO.noUndef rfl rfl rfl ?_
    | refine RO.noNone rfl rfl rfl ?_
    | refine Run.cond_true rfl ?_
    | refine Run.cond_false rfl ?_
    | refine Run.skip ?_
    | refine Run.block ?_
    | refine Run.inBlock ?_
    | refine Run.exit rfl ?_
  all_goals
    refine Run.ret Try.func10 rfl (.tmp rfl .nil) ?_
    exact ⟨rfl, hS.picks (by focus ((repeat (first | apply Picks.all | apply Picks.nil | (refine Picks.cons (by repeat (first | apply Take.head | apply Take.tail)) ?_) | apply Picks.drop)); done))⟩
end
end Go.Proofs.Ytecpehjlpgcmaaa
