/-
  The laws' helpers for the layer of ciphers: ciphers held against each other; awake.
-/
import Derived.Test.YtcipboenhfakoaaCipher2
import Derived.Test.YtcipboenhfakoaaMore
namespace Go.Proofs.Ytcipboenhfakoaa
set_option linter.unusedSimpArgs false
set_option linter.unusedVariables false
open Go Go.RowKit

/-- A type whose values are ciphers. -/
structure CphT (T : TypeId) : Prop where
  fields : ∃ f1 f2 f3 : Field, (Try.prog.fieldsOf T).toList = [f1, f2, f3] ∧
    (f1.name ≠ "_" ∧ f1.type = 3 ∧ f1.offset = 0) ∧ (f2.name ≠ "_" ∧ f2.type = 4 ∧ f2.offset = 1) ∧ (f3.name ≠ "_" ∧ f3.type = 22 ∧ f3.offset = 2)
  under : Try.prog.underlying T = some (.struct (Try.prog.fieldsOf T))
  stood : Try.prog.stoodInHeld T = false
  guard : Try.prog.eqGuardType Try.prog.depth T = false
theorem cphT : CphT 32 := ⟨⟨_, _, _, rfl, ⟨by decide, rfl, rfl⟩, ⟨by decide, rfl, rfl⟩, ⟨by decide, rfl, rfl⟩⟩, rfl, by kernel_rfl, by kernel_rfl⟩
theorem part_bool {xs : Array Value} {off : Nat} {v : Value} {w : World} (h : xs[off]? = some v) : (part 4 xs off).run Try.prog w = .ok v w := run_part_plain w (by rfl) h

theorem cph_equal_of {T : TypeId} (hT : CphT T) {n m : Cph} {w : World} : (Op.equal T (cphV n) (cphV m)).run Try.prog w = .ok (decide (n = m)) w := by
  have he : (Op.equal T (cphV n) (cphV m)).run Try.prog w = (Op.eqFields 9999 (cphL n).toArray (cphL m).toArray (Try.prog.fieldsOf T).toList).run Try.prog w := run_equalIn_struct w 9999 T _ _ hT.under hT.stood
  rw [he]
  obtain ⟨f1, f2, f3, hf, ⟨a1, a2, a3⟩, ⟨b1, b2, b3⟩, ⟨c1, c2, c3⟩⟩ := hT.fields
  rw [hf]
  have pi : ∀ (x y : Int), (Op.equalIn (9998 + 1) 3 (.int .i64 x) (.int .i64 y)).run Try.prog w = .ok (x == y) w := fun x y => int_equal rfl
  have pb : ∀ (x y : Bool), (Op.equalIn (9998 + 1) 4 (.bool x) (.bool y)).run Try.prog w = .ok (x == y) w := fun x y => run_equalIn_bool w 9998 4 x y rfl
  have pu : ∀ (x y : Int), (Op.equalIn (9998 + 1) 22 (.int .u64 x) (.int .u64 y)).run Try.prog w = .ok (x == y) w := fun x y => int_equal rfl
  have h0 : ∀ n : Cph, (part 3 (cphL n).toArray 0).run Try.prog w = .ok (.int .i64 n.key) w := fun n => part_int rfl
  have h1 : ∀ n : Cph, (part 4 (cphL n).toArray 1).run Try.prog w = .ok (.bool n.has) w := fun n => part_bool rfl
  have h2 : ∀ n : Cph, (part 22 (cphL n).toArray 2).run Try.prog w = .ok (.int .u64 n.n) w := fun n => part_u64 rfl
  simp only [Op.eqFields, a1, a2, a3, b1, b2, b3, c1, c2, c3, if_pos, ne_eq, not_false_eq_true, Sem.run_bind, h0, h1, h2, Result.andThen_ok, pi, pb, pu, Sem.run_ite, Sem.run_pure]
  obtain ⟨k, x, a⟩ := n
  obtain ⟨k', x', a'⟩ := m
  simp only [Cph.mk.injEq]
  by_cases q1 : k = k' <;> by_cases q2 : x = x' <;> by_cases q3 : a = a' <;> simp [q1, q2, q3]

section
variable {n : Nat} {e : Env} {ty t' : TypeId} {x y : Operand} {S : World → Prop} {T : TypeId} {a b : Cph}
theorem Still.eqlCph (hT : CphT T) (hx : ev e x = some (cphV a)) (hy : ev e y = some (cphV b)) : Still Try.prog n e S (.binOp .eql T x y t') ty (.bool (decide (a = b))) :=
  Still.bin hx hy (fun w => run_eqGuard_agg w .eql T x y _ _ hT.guard) (fun w _ => by simp [binOp, cphV, show (Op.equal T (.agg (cphL a).toArray) (.agg (cphL b).toArray)).run Try.prog w = _ from cph_equal_of hT])
theorem Still.neqCph (hT : CphT T) (hx : ev e x = some (cphV a)) (hy : ev e y = some (cphV b)) : Still Try.prog n e S (.binOp .neq T x y t') ty (.bool (decide (a ≠ b))) :=
  Still.bin hx hy (fun w => run_eqGuard_agg w .neq T x y _ _ hT.guard) (fun w _ => by simp [binOp, cphV, show (Op.equal T (.agg (cphL a).toArray) (.agg (cphL b).toArray)).run Try.prog w = _ from cph_equal_of hT])
end
theorem cph_ne (c : Cph) : decide (c ≠ c) = false := by simp
theorem cph_eq (c : Cph) : decide (c = c) = true := by simp

section
variable {we w : World} {ρ : List (Nat × Obj)} {σ F : List HP} {p lim : Nat} {L L' : List Nd} {a : Value} {c d : Cph} {ad x y e : Int}

theorem seal_is (h : cseal lim L c ad x = (L', d, y, e)) (hS : St we ρ (Arena p lim L :: F) w) :
    Cl Try.prog 27 [cphV c, .pointer (some ⟨p, 0, none⟩), .int .i64 ad, .int .i64 x] w fun v w' => v = .tuple #[cphV d, .int .i64 y, .int .i64 e] ∧ St we ρ (Arena p lim L' :: F) w' := by
  have := seal_calls (c := c) (ad := ad) (x := x) hS
  rwa [h] at this
theorem open_is (h : copen L c ad x = (d, y, e)) (hS : St we ρ (Arena p lim L :: F) w) :
    Cl Try.prog 29 [cphV c, .pointer (some ⟨p, 0, none⟩), .int .i64 ad, .int .i64 x] w fun v w' => v = .tuple #[cphV d, .int .i64 y, .int .i64 e] ∧ St we ρ (Arena p lim L :: F) w' := by
  have := open_calls (c := c) (ad := ad) (x := x) hS
  rwa [h] at this
theorem cseal_bad (h : cseal lim L c ad x = (L', d, y, e)) (he : e ≠ 0) : d = .z ∧ y = 0 ∧ L' = L := by
  unfold cseal at h
  split at h
  · simp only [Prod.mk.injEq] at h; exact ⟨h.2.1.symm, h.2.2.1.symm, h.1.symm⟩
  · split at h
    · simp only [Prod.mk.injEq] at h; exact absurd h.2.2.2.symm he
    · split at h
      · simp only [Prod.mk.injEq] at h; exact ⟨h.2.1.symm, h.2.2.1.symm, h.1.symm⟩
      · simp only [Prod.mk.injEq] at h; exact absurd h.2.2.2.symm he

end
end Go.Proofs.Ytcipboenhfakoaa
