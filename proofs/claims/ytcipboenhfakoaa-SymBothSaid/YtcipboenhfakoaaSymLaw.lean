/-
  Begin; states held against each other; awake of the layer of states.
-/
import Derived.Test.YtcipboenhfakoaaSym
import Derived.Test.YtcipboenhfakoaaSymSteps
namespace Go.Proofs.Ytcipboenhfakoaa
set_option linter.unusedSimpArgs false
set_option linter.unusedVariables false
open Go Go.RowKit

theorem cph_equal_at {T : TypeId} (hT : CphT T) (d : Nat) {n m : Cph} {w : World} : (Op.equalIn (d + 1 + 1) T (cphV n) (cphV m)).run Try.prog w = .ok (decide (n = m)) w := by
  have he : (Op.equalIn (d + 1 + 1) T (cphV n) (cphV m)).run Try.prog w = (Op.eqFields (d + 1) (cphL n).toArray (cphL m).toArray (Try.prog.fieldsOf T).toList).run Try.prog w := run_equalIn_struct w (d + 1) T _ _ hT.under hT.stood
  rw [he]
  obtain ⟨f1, f2, f3, hf, ⟨a1, a2, a3⟩, ⟨b1, b2, b3⟩, ⟨c1, c2, c3⟩⟩ := hT.fields
  rw [hf]
  have pi : ∀ (x y : Int), (Op.equalIn (d + 1) 3 (.int .i64 x) (.int .i64 y)).run Try.prog w = .ok (x == y) w := fun x y => int_equal rfl
  have pb : ∀ (x y : Bool), (Op.equalIn (d + 1) 4 (.bool x) (.bool y)).run Try.prog w = .ok (x == y) w := fun x y => run_equalIn_bool w d 4 x y rfl
  have pu : ∀ (x y : Int), (Op.equalIn (d + 1) 22 (.int .u64 x) (.int .u64 y)).run Try.prog w = .ok (x == y) w := fun x y => int_equal rfl
  have h0 : ∀ n : Cph, (part 3 (cphL n).toArray 0).run Try.prog w = .ok (.int .i64 n.key) w := fun n => part_int rfl
  have h1 : ∀ n : Cph, (part 4 (cphL n).toArray 1).run Try.prog w = .ok (.bool n.has) w := fun n => part_bool rfl
  have h2 : ∀ n : Cph, (part 22 (cphL n).toArray 2).run Try.prog w = .ok (.int .u64 n.n) w := fun n => part_u64 rfl
  simp only [Op.eqFields, a1, a2, a3, b1, b2, b3, c1, c2, c3, if_pos, ne_eq, not_false_eq_true, Sem.run_bind, h0, h1, h2, Result.andThen_ok, pi, pb, pu, Sem.run_ite, Sem.run_pure]
  obtain ⟨k, x, a⟩ := n
  obtain ⟨k', x', a'⟩ := m
  simp only [Cph.mk.injEq]
  by_cases q1 : k = k' <;> by_cases q2 : x = x' <;> by_cases q3 : a = a' <;> simp [q1, q2, q3]

theorem part_cph {s : Sy} {w : World} : (part 32 (syL s).toArray 2).run Try.prog w = .ok (cphV s.c) w := by
  have h1 := run_isAgg (P := Try.prog) (t := 32) (b := true) rfl w
  have h2 := run_sizeOf (P := Try.prog) (t := 32) (m := 3) rfl w
  simp only [part, Sem.run_bind, h1, Result.andThen_ok, if_true, h2, Sem.run_pure]
  rfl

theorem sy_fields : ∃ f1 f2 f3 : Field, (Try.prog.fieldsOf 34).toList = [f1, f2, f3] ∧
    (f1.name ≠ "_" ∧ f1.type = 3 ∧ f1.offset = 0) ∧ (f2.name ≠ "_" ∧ f2.type = 3 ∧ f2.offset = 1) ∧ (f3.name ≠ "_" ∧ f3.type = 32 ∧ f3.offset = 2) :=
  ⟨_, _, _, rfl, ⟨by decide, rfl, rfl⟩, ⟨by decide, rfl, rfl⟩, ⟨by decide, rfl, rfl⟩⟩

theorem sy_equal {n m : Sy} {w : World} : (Op.equal 34 (syV n) (syV m)).run Try.prog w = .ok (decide (n = m)) w := by
  have he : (Op.equal 34 (syV n) (syV m)).run Try.prog w = (Op.eqFields 9999 (syL n).toArray (syL m).toArray (Try.prog.fieldsOf 34).toList).run Try.prog w := run_equalIn_struct w 9999 34 _ _ rfl (by kernel_rfl)
  rw [he]
  obtain ⟨f1, f2, f3, hf, ⟨a1, a2, a3⟩, ⟨b1, b2, b3⟩, ⟨c1, c2, c3⟩⟩ := sy_fields
  rw [hf]
  have pi : ∀ (x y : Int), (Op.equalIn (9998 + 1) 3 (.int .i64 x) (.int .i64 y)).run Try.prog w = .ok (x == y) w := fun x y => int_equal rfl
  have pc : ∀ (x y : Cph), (Op.equalIn (9998 + 1) 32 (cphV x) (cphV y)).run Try.prog w = .ok (decide (x = y)) w := fun x y => cph_equal_at cphT 9997
  have h0 : ∀ n : Sy, (part 3 (syL n).toArray 0).run Try.prog w = .ok (.int .i64 n.ck) w := fun n => part_int rfl
  have h1 : ∀ n : Sy, (part 3 (syL n).toArray 1).run Try.prog w = .ok (.int .i64 n.h) w := fun n => part_int rfl
  have h2 : ∀ n : Sy, (part 32 (syL n).toArray 2).run Try.prog w = .ok (cphV n.c) w := fun n => part_cph
  simp only [Op.eqFields, a1, a2, a3, b1, b2, b3, c1, c2, c3, if_pos, ne_eq, not_false_eq_true, Sem.run_bind, h0, h1, h2, Result.andThen_ok, pi, pc, Sem.run_ite, Sem.run_pure]
  obtain ⟨k, x, a⟩ := n
  obtain ⟨k', x', a'⟩ := m
  simp only [Sy.mk.injEq]
  by_cases q1 : k = k' <;> by_cases q2 : x = x' <;> by_cases q3 : a = a' <;> simp [q1, q2, q3]

section
variable {n : Nat} {e : Env} {ty t' : TypeId} {x y : Operand} {S : World → Prop} {a b : Sy}
theorem Still.eqlSy (hx : ev e x = some (syV a)) (hy : ev e y = some (syV b)) : Still Try.prog n e S (.binOp .eql 34 x y t') ty (.bool (decide (a = b))) :=
  Still.bin hx hy (fun w => run_eqGuard_agg w .eql 34 x y _ _ (by kernel_rfl)) (fun w _ => by simp [binOp, syV, show (Op.equal 34 (.agg (syL a).toArray) (.agg (syL b).toArray)).run Try.prog w = _ from sy_equal])
theorem Still.neqSy (hx : ev e x = some (syV a)) (hy : ev e y = some (syV b)) : Still Try.prog n e S (.binOp .neq 34 x y t') ty (.bool (decide (a ≠ b))) :=
  Still.bin hx hy (fun w => run_eqGuard_agg w .neq 34 x y _ _ (by kernel_rfl)) (fun w _ => by simp [binOp, syV, show (Op.equal 34 (.agg (syL a).toArray) (.agg (syL b).toArray)).run Try.prog w = _ from sy_equal])
end
theorem Still.ptrNotNil {P : Program} {n : Nat} {e : Env} {ty : TypeId} {x y : Operand} {t t' : TypeId} {p : Option Addr} {b : Bool} {S : World → Prop} (hx : ev e x = some (.pointer p)) (hy : ev e y = some (.pointer none)) (ht : P.underlying t = some (.pointer (P.pointee t))) (hb : p.isSome = b) :
    Still P n e S (.binOp .neq t x y t') ty (.bool b) := by
  subst hb
  refine Still.bin hx hy (fun w => rfl) (fun w _ => ?_)
  have h1 : (Op.equal t (.pointer p) (.pointer none)).run P w = .ok p.isNone w := run_equal_pointer_nil (P := P) w t p ht
  cases p <;> simp [binOp, h1]
theorem sy_eq (s : Sy) : decide (s = s) = true := by simp
theorem sy_ne (s : Sy) : decide (s ≠ s) = false := by simp

/-- A text's bytes. -/
def bytesI (s : ByteArray) : List Int := s.data.toList.map fun b => (b.toNat : Int)
theorem bytesI_inj {s t : ByteArray} (h : bytesI s = bytesI t) : s = t := by
  obtain ⟨⟨x⟩⟩ := s
  obtain ⟨⟨y⟩⟩ := t
  unfold bytesI at h
  simp only at h
  have key : ∀ (x y : List UInt8), x.map (fun b => (b.toNat : Int)) = y.map (fun b => (b.toNat : Int)) → x = y := by
    intro x
    induction x with
    | nil => intro y h; cases y with
      | nil => rfl
      | cons b y => simp at h
    | cons a x ih => intro y h; cases y with
      | nil => simp at h
      | cons b y =>
        simp only [List.map_cons, List.cons.injEq] at h
        have e : a = b := UInt8.toNat_inj.1 (by have := h.1; omega)
        rw [ih y h.2, e]
  rw [key x y h]

section
variable {we w : World} {ρ : List (Nat × Obj)} {σ F : List HP} {p lim : Nat} {L : List Nd}

set_option maxHeartbeats 2000000 in
theorem begin_calls {name : ByteArray} {pr : Int} (hn : name.size ≤ 100) (hp : has L pr = true) (g : Good lim L) (hr : Rt L) (hroom : L.length + 2 * name.size < lim) (hS : St we ρ (Arena p lim L :: F) w) :
    Cl Try.prog 10 [.pointer (some ⟨p, 0, none⟩), .string name, .int .i64 pr] w fun v w' => ∃ L' t h, v = .tuple #[syV ⟨t, h, .z⟩, .int .i64 0] ∧ (Good lim L' ∧ Rt L' ∧ L'.length ≤ L.length + 2 * name.size + 1 ∧ Den L' t (bytesI name) ∧ has L' h = true ∧ nd L' h = hashN t pr ∧ has L' t = true ∧ ∃ M, L' = L ++ M) ∧ St we ρ (Arena p lim L' :: F) w' := by
  refine Run.calls3 (n := 61) Try.func10 rfl rfl rfl ?_
  repeat' first
    | (apply RO.op; apply OP.callF; rfl; rfl; rfl; show Cl _ 14 _ _ _; exact hasOne hp (hS.take (by focus ((repeat (first | apply Has.head | apply Take.head | apply Put.head | apply Has.tail | apply Take.tail | apply Put.tail)); done))) (by first | (focus (apply Rd.own; (repeat (first | apply Has.head | apply Has.tail)); done)) | (focus (apply Rd.ro; (repeat (first | apply List.Mem.head | apply List.Mem.tail)); done)) | (focus ((repeat (first | assumption | apply Rd.tail)); done))); clear hS; rintro v w1 ⟨rfl, hS⟩)
    | (apply OP.callF; rfl; rfl; rfl; show Cl _ 14 _ _ _; exact hasOne hp (hS.take (by focus ((repeat (first | apply Has.head | apply Take.head | apply Put.head | apply Has.tail | apply Take.tail | apply Put.tail)); done))) (by first | (focus (apply Rd.own; (repeat (first | apply Has.head | apply Has.tail)); done)) | (focus (apply Rd.ro; (repeat (first | apply List.Mem.head | apply List.Mem.tail)); done)) | (focus ((repeat (first | assumption | apply Rd.tail)); done))); clear hS; rintro v w1 ⟨rfl, hS⟩; refine ⟨(by first | exact hS | exact hS.tail | exact hS.sublist (by repeat (first | exact List.Sublist.refl _ | refine .cons_cons _ ?_ | refine .cons _ ?_))), ?_⟩)
    | refine Run.seq ?_
    | refine Run.region ?_
    | (refine RO.split ?_ ?_ <;> intro hc <;> try (first | (exfalso; omega) | exact absurd rfl hc | exact Bool.noConfusion hc))
    | refine RO.nil ?_
    | refine RO.still (by first | (apply Still.move; rfl) | (apply Still.assign; rfl) | (apply Still.load; rfl; rfl; (first | (focus (apply Rd.own; (repeat (first | apply Has.head | apply Has.tail)); done)) | (focus (apply Rd.ro; (repeat (first | apply List.Mem.head | apply List.Mem.tail)); done)) | (focus ((repeat (first | assumption | apply Rd.tail)); done))); (first | rfl | exact flat_get0 (by assumption) | exact flat_get1 (by assumption) | exact flat_get2 (by assumption) | exact flat_get3 (by assumption) | exact flat_get4 (by assumption))) | (apply Still.fieldAddr; rfl; (first | exact Eq.refl (some 0) | exact Eq.refl (some 1) | exact Eq.refl (some 2) | exact Eq.refl (some 3) | exact Eq.refl (some 4) | exact Eq.refl (some 5) | exact Eq.refl (some 6) | exact Eq.refl (some 7) | exact Eq.refl (some 8) | exact Eq.refl (some 9) | exact Eq.refl (some 10) | exact Eq.refl (some 11) | exact offAdd_zero rfl | exact offAdd_of (k := 1) rfl | exact offAdd_of (k := 2) rfl | exact offAdd_of (k := 3) rfl | exact offAdd_of (k := 4) rfl | exact offAdd_of (k := 5) rfl | exact offAdd_of (k := 6) rfl | exact offAdd_of (k := 7) rfl | exact offAdd_of (k := 8) rfl | exact offAdd_of (k := 9) rfl | exact offAdd_of (k := 10) rfl | exact offAdd_of (k := 11) rfl | rfl)) | (apply Still.nilCheck; rfl) | (apply Still.extract; rfl; rfl) | (apply Still.loadAgg; rfl; rfl; (first | exact Eq.refl (some 0) | exact Eq.refl (some 1) | exact Eq.refl (some 2) | exact Eq.refl (some 3) | exact Eq.refl (some 4) | exact Eq.refl (some 5) | exact Eq.refl (some 6) | exact Eq.refl (some 7) | exact Eq.refl (some 8) | exact Eq.refl (some 9) | exact Eq.refl (some 10) | exact Eq.refl (some 11) | exact offAdd_zero rfl | exact offAdd_of (k := 1) rfl | exact offAdd_of (k := 2) rfl | exact offAdd_of (k := 3) rfl | exact offAdd_of (k := 4) rfl | exact offAdd_of (k := 5) rfl | exact offAdd_of (k := 6) rfl | exact offAdd_of (k := 7) rfl | exact offAdd_of (k := 8) rfl | exact offAdd_of (k := 9) rfl | exact offAdd_of (k := 10) rfl | exact offAdd_of (k := 11) rfl | rfl); (first | (focus (apply Rd.own; (repeat (first | apply Has.head | apply Has.tail)); done)) | (focus (apply Rd.ro; (repeat (first | apply List.Mem.head | apply List.Mem.tail)); done)) | (focus ((repeat (first | assumption | apply Rd.tail)); done))); (first | exact flat_take (by assumption) | rfl); rfl) | (apply Still.pickT; rfl; rfl) | (apply Still.pickF; rfl; rfl) | (apply Still.lss; rfl; rfl) | (apply Still.leq; rfl; rfl) | (apply Still.gtr; rfl; rfl) | (apply Still.geq; rfl; rfl) | (apply Still.eql; rfl; rfl) | (apply Still.neq; rfl; rfl) | (apply Still.not; rfl; rfl) | (apply Still.add; rfl; rfl; (first | exact wrap_i64 (by omega) (by omega) | exact wrap_u64 (by omega) (by omega) | rfl)) | (apply Still.sub; rfl; rfl; (first | exact wrap_i64 (by omega) (by omega) | exact wrap_u64 (by omega) (by omega) | rfl)) | (apply Still.mul; rfl; rfl; (first | exact wrap_i64 (by omega) (by omega) | exact wrap_u64 (by omega) (by omega) | rfl)) | (apply Still.makeFunc; rfl; rfl) | (apply Still.lenSlice; rfl; rfl) | (apply Still.lenString; rfl; rfl) | (apply Still.build; rfl; rfl) | (apply Still.indexAddr; rfl; rfl; rfl; (first | exact Eq.refl (some 0) | exact Eq.refl (some 1) | exact Eq.refl (some 2) | exact Eq.refl (some 3) | exact Eq.refl (some 4) | exact Eq.refl (some 5) | exact Eq.refl (some 6) | exact Eq.refl (some 7) | exact Eq.refl (some 8) | exact Eq.refl (some 9) | exact Eq.refl (some 10) | exact Eq.refl (some 11) | exact offAdd_zero rfl | exact offAdd_of (k := 1) rfl | exact offAdd_of (k := 2) rfl | exact offAdd_of (k := 3) rfl | exact offAdd_of (k := 4) rfl | exact offAdd_of (k := 5) rfl | exact offAdd_of (k := 6) rfl | exact offAdd_of (k := 7) rfl | exact offAdd_of (k := 8) rfl | exact offAdd_of (k := 9) rfl | exact offAdd_of (k := 10) rfl | exact offAdd_of (k := 11) rfl | rfl); omega; omega; (first | (simp only [Int.toNat_natCast, Nat.mul_one, Nat.zero_add, Int.reduceToNat, Nat.reduceMul, Nat.reduceAdd, Nat.zero_mul]; exact rfl) | rfl)) | (apply Still.eqlB; rfl; rfl; rfl) | (apply Still.neqB; rfl; rfl; rfl) | (apply Still.eqlS; rfl; rfl) | (apply Still.neqS; rfl; rfl) | (apply Still.nilCheckF; rfl) | (apply Still.index; rfl; rfl; rfl; rfl; (first | exact Eq.refl (some 0) | exact Eq.refl (some 1) | exact Eq.refl (some 2) | exact Eq.refl (some 3) | exact Eq.refl (some 4) | exact Eq.refl (some 5) | exact Eq.refl (some 6) | exact Eq.refl (some 7) | exact Eq.refl (some 8) | exact Eq.refl (some 9) | exact Eq.refl (some 10) | exact Eq.refl (some 11) | exact offAdd_zero rfl | exact offAdd_of (k := 1) rfl | exact offAdd_of (k := 2) rfl | exact offAdd_of (k := 3) rfl | exact offAdd_of (k := 4) rfl | exact offAdd_of (k := 5) rfl | exact offAdd_of (k := 6) rfl | exact offAdd_of (k := 7) rfl | exact offAdd_of (k := 8) rfl | exact offAdd_of (k := 9) rfl | exact offAdd_of (k := 10) rfl | exact offAdd_of (k := 11) rfl | rfl); omega; omega; (first | (simp only [Int.toNat_natCast, Nat.mul_one, Nat.zero_add, Int.reduceToNat, Nat.reduceMul, Nat.reduceAdd, Nat.zero_mul]; exact rfl) | rfl); rfl) | (apply Still.sliceNil; rfl; rfl; rfl; rfl) | (apply Still.sliceNotNil; rfl; rfl; rfl; rfl) | (apply Still.mapNil; rfl; rfl; rfl; rfl) | (apply Still.ptrNil; rfl; rfl; rfl; rfl) | (apply Still.makeInterface; rfl; rfl) | (apply Still.assertMap; rfl; rfl) | (apply Still.maxI; rfl; rfl; rfl) | (apply Still.minI; rfl; rfl; rfl)) hS rfl ?_
    | (apply RO.op; apply OP.box hS; rfl; rfl; rfl; clear hS; intro b w1 hS)
    | (apply RO.op; apply OP.alloc hS; rfl; rfl; rfl; clear hS; intro b w1 hS)
    | (apply RO.op; apply OP.store hS; rfl; rfl; rfl; rfl; rfl; (focus ((repeat (first | apply Has.head | apply Take.head | apply Put.head | apply Has.tail | apply Take.tail | apply Put.tail)); done)); rfl; rfl; clear hS; intro w1 hS)
    | (apply RO.op; apply OP.buildSlice hS; rfl; rfl; (first | exact Eq.refl (some 0) | exact Eq.refl (some 1) | exact Eq.refl (some 2) | exact Eq.refl (some 3) | exact Eq.refl (some 4) | exact Eq.refl (some 5) | exact Eq.refl (some 6) | exact Eq.refl (some 7) | exact Eq.refl (some 8) | exact Eq.refl (some 9) | exact Eq.refl (some 10) | exact Eq.refl (some 11) | exact offAdd_zero rfl | exact offAdd_of (k := 1) rfl | exact offAdd_of (k := 2) rfl | exact offAdd_of (k := 3) rfl | exact offAdd_of (k := 4) rfl | exact offAdd_of (k := 5) rfl | exact offAdd_of (k := 6) rfl | exact offAdd_of (k := 7) rfl | exact offAdd_of (k := 8) rfl | exact offAdd_of (k := 9) rfl | exact offAdd_of (k := 10) rfl | exact offAdd_of (k := 11) rfl | rfl); rfl; rfl; rfl; rfl; rfl; clear hS; intro b w1 hS)
    | (apply RO.op; apply OP.makeMap hS; rfl; clear hS; intro b w1 hS)
    | refine RO.yes rfl rfl ?_
    | refine RO.no rfl rfl rfl rfl ?_
    | refine RO.noUndef rfl rfl rfl ?_
    | refine RO.noNone rfl rfl rfl ?_
    | refine Run.cond_true rfl ?_
    | refine Run.cond_false rfl ?_
    | refine Run.skip ?_
    | refine Run.block ?_
    | refine Run.inBlock ?_
    | refine Run.exit rfl ?_
  rename_i b6 _ _
  have h0 : has L 0 = true := by rw [has_iff]; have := g.wf.pos; omega
  refine Run.while (fun x : Nat × Int × List Nd => [(0, .pointer (some ⟨p, 0, none⟩)), (2, .int .i64 pr), (6, .pointer (some ⟨b6, 0, none⟩)), (8, .int .i64 x.2.1), (24, .int .i64 name.size), (25, .int .i64 x.1), (1, .string name)])
    (fun x w => x.1 ≤ name.size ∧ Good lim x.2.2 ∧ Rt x.2.2 ∧ x.2.2.length ≤ L.length + 2 * x.1 ∧ Den x.2.2 x.2.1 ((bytesI name).take x.1) ∧ has x.2.2 x.2.1 = true ∧ (∃ M, x.2.2 = L ++ M) ∧ St we ρ (Arena p lim x.2.2 :: Row b6 [.int .i64 0, .int .i64 0, .int .i64 0, .bool false, .int .u64 0] 34 :: F) w) (fun x => name.size - x.1) (0, 0, L)
    ⟨by simp, g, hr, by simp, Den.nil, h0, ⟨[], by simp⟩, hS.picks (by focus ((repeat (first | apply Picks.all | apply Picks.nil | (refine Picks.cons (by repeat (first | apply Take.head | apply Take.tail)) ?_) | apply Picks.drop)); done))⟩ (by focus ((repeat (first | exact .nil | refine .cons rfl ?_)); done)) ?_
  clear hS
  rintro ⟨i, t, L1⟩ w ⟨hi, g1, hr1, hl1, hd1, ht1, hext, hS⟩ ih
  simp only at hi g1 hr1 hl1 hd1 ht1 hext hS ih ⊢
  by_cases hlt : i < name.size
  · have hz1 : has L1 0 = true := by rw [has_iff]; have := g1.wf.pos; omega
    have hlt' : ((i : Nat) : Int).toNat < name.size := by omega
    have hb : i < (bytesI name).length := by simpa [bytesI] using hlt
    have hbv : (bytesI name)[i] = ((name[i]'hlt).toNat : Int) := by simp [bytesI]; rfl
    have hb256 : (name[i]'hlt).toNat < 256 := UInt8.toNat_lt _
    obtain ⟨L2, wd, m1⟩ := made (n := ⟨9, ((name[i]'hlt).toNat : Int), 0, 0, 0⟩) g1 hr1 (by simp [right, numbered, many, partOk]) (by omega)
    have l2 := m1.len
    obtain ⟨L3, t2, m2⟩ := made (n := ⟨8, 0, t, wd, 0⟩) m1.good m1.rt (by simp [right, numbered, many, partOk, m1.has ht1, m1.is]) (by omega)
    have l3 := m2.len
    have hden : Den L3 t2 ((bytesI name).take (i + 1)) := by
      rw [List.take_succ_eq_append_getElem hb, hbv]
      exact .snoc ((hd1.made m1).made m2) m2.is (m2.has m1.is) m2.node ((m2.nd m1.is).trans m1.node)
    have hcv : IntKind.u64.wrap (((name[i]'hlt).toNat : Nat) : Int) = (((name[i]'hlt).toNat : Nat) : Int) := wrap_u64 (by omega) (by omega)
    repeat' first
      | (refine RO.still (by apply Still.byteAt (s := name) (i := ((i : Nat) : Int)) (h1 := hlt'); rfl; rfl; rfl; omega) hS rfl ?_)
      | (refine RO.still (by apply Still.conv; rfl; rfl; rfl; exact hcv) hS rfl ?_)
      | (apply RO.op; apply OP.callF; rfl; rfl; rfl; show Cl _ 9 _ _ _; (first | (apply mk_is m1.eq; apply hS.take; (focus ((repeat (first | apply Has.head | apply Take.head | apply Put.head | apply Has.tail | apply Take.tail | apply Put.tail)); done))) | (apply mk_is m2.eq; apply hS.take; (focus ((repeat (first | apply Has.head | apply Take.head | apply Put.head | apply Has.tail | apply Take.tail | apply Put.tail)); done)))); clear hS; rintro v w1 ⟨rfl, hS⟩)
      | refine Run.seq ?_
      | refine Run.region ?_
      | (refine RO.split ?_ ?_ <;> intro hc <;> try (first | (exfalso; omega) | exact absurd rfl hc | exact Bool.noConfusion hc))
      | refine RO.nil ?_
      | refine RO.still (by first | (apply Still.move; rfl) | (apply Still.assign; rfl) | (apply Still.load; rfl; rfl; (first | (focus (apply Rd.own; (repeat (first | apply Has.head | apply Has.tail)); done)) | (focus (apply Rd.ro; (repeat (first | apply List.Mem.head | apply List.Mem.tail)); done)) | (focus ((repeat (first | assumption | apply Rd.tail)); done))); (first | rfl | exact flat_get0 (by assumption) | exact flat_get1 (by assumption) | exact flat_get2 (by assumption) | exact flat_get3 (by assumption) | exact flat_get4 (by assumption))) | (apply Still.fieldAddr; rfl; (first | exact Eq.refl (some 0) | exact Eq.refl (some 1) | exact Eq.refl (some 2) | exact Eq.refl (some 3) | exact Eq.refl (some 4) | exact Eq.refl (some 5) | exact Eq.refl (some 6) | exact Eq.refl (some 7) | exact Eq.refl (some 8) | exact Eq.refl (some 9) | exact Eq.refl (some 10) | exact Eq.refl (some 11) | exact offAdd_zero rfl | exact offAdd_of (k := 1) rfl | exact offAdd_of (k := 2) rfl | exact offAdd_of (k := 3) rfl | exact offAdd_of (k := 4) rfl | exact offAdd_of (k := 5) rfl | exact offAdd_of (k := 6) rfl | exact offAdd_of (k := 7) rfl | exact offAdd_of (k := 8) rfl | exact offAdd_of (k := 9) rfl | exact offAdd_of (k := 10) rfl | exact offAdd_of (k := 11) rfl | rfl)) | (apply Still.nilCheck; rfl) | (apply Still.extract; rfl; rfl) | (apply Still.loadAgg; rfl; rfl; (first | exact Eq.refl (some 0) | exact Eq.refl (some 1) | exact Eq.refl (some 2) | exact Eq.refl (some 3) | exact Eq.refl (some 4) | exact Eq.refl (some 5) | exact Eq.refl (some 6) | exact Eq.refl (some 7) | exact Eq.refl (some 8) | exact Eq.refl (some 9) | exact Eq.refl (some 10) | exact Eq.refl (some 11) | exact offAdd_zero rfl | exact offAdd_of (k := 1) rfl | exact offAdd_of (k := 2) rfl | exact offAdd_of (k := 3) rfl | exact offAdd_of (k := 4) rfl | exact offAdd_of (k := 5) rfl | exact offAdd_of (k := 6) rfl | exact offAdd_of (k := 7) rfl | exact offAdd_of (k := 8) rfl | exact offAdd_of (k := 9) rfl | exact offAdd_of (k := 10) rfl | exact offAdd_of (k := 11) rfl | rfl); (first | (focus (apply Rd.own; (repeat (first | apply Has.head | apply Has.tail)); done)) | (focus (apply Rd.ro; (repeat (first | apply List.Mem.head | apply List.Mem.tail)); done)) | (focus ((repeat (first | assumption | apply Rd.tail)); done))); (first | exact flat_take (by assumption) | rfl); rfl) | (apply Still.pickT; rfl; rfl) | (apply Still.pickF; rfl; rfl) | (apply Still.lss; rfl; rfl) | (apply Still.leq; rfl; rfl) | (apply Still.gtr; rfl; rfl) | (apply Still.geq; rfl; rfl) | (apply Still.eql; rfl; rfl) | (apply Still.neq; rfl; rfl) | (apply Still.not; rfl; rfl) | (apply Still.add; rfl; rfl; (first | exact wrap_i64 (by omega) (by omega) | exact wrap_u64 (by omega) (by omega) | rfl)) | (apply Still.sub; rfl; rfl; (first | exact wrap_i64 (by omega) (by omega) | exact wrap_u64 (by omega) (by omega) | rfl)) | (apply Still.mul; rfl; rfl; (first | exact wrap_i64 (by omega) (by omega) | exact wrap_u64 (by omega) (by omega) | rfl)) | (apply Still.makeFunc; rfl; rfl) | (apply Still.lenSlice; rfl; rfl) | (apply Still.lenString; rfl; rfl) | (apply Still.build; rfl; rfl) | (apply Still.indexAddr; rfl; rfl; rfl; (first | exact Eq.refl (some 0) | exact Eq.refl (some 1) | exact Eq.refl (some 2) | exact Eq.refl (some 3) | exact Eq.refl (some 4) | exact Eq.refl (some 5) | exact Eq.refl (some 6) | exact Eq.refl (some 7) | exact Eq.refl (some 8) | exact Eq.refl (some 9) | exact Eq.refl (some 10) | exact Eq.refl (some 11) | exact offAdd_zero rfl | exact offAdd_of (k := 1) rfl | exact offAdd_of (k := 2) rfl | exact offAdd_of (k := 3) rfl | exact offAdd_of (k := 4) rfl | exact offAdd_of (k := 5) rfl | exact offAdd_of (k := 6) rfl | exact offAdd_of (k := 7) rfl | exact offAdd_of (k := 8) rfl | exact offAdd_of (k := 9) rfl | exact offAdd_of (k := 10) rfl | exact offAdd_of (k := 11) rfl | rfl); omega; omega; (first | (simp only [Int.toNat_natCast, Nat.mul_one, Nat.zero_add, Int.reduceToNat, Nat.reduceMul, Nat.reduceAdd, Nat.zero_mul]; exact rfl) | rfl)) | (apply Still.eqlB; rfl; rfl; rfl) | (apply Still.neqB; rfl; rfl; rfl) | (apply Still.eqlS; rfl; rfl) | (apply Still.neqS; rfl; rfl) | (apply Still.nilCheckF; rfl) | (apply Still.index; rfl; rfl; rfl; rfl; (first | exact Eq.refl (some 0) | exact Eq.refl (some 1) | exact Eq.refl (some 2) | exact Eq.refl (some 3) | exact Eq.refl (some 4) | exact Eq.refl (some 5) | exact Eq.refl (some 6) | exact Eq.refl (some 7) | exact Eq.refl (some 8) | exact Eq.refl (some 9) | exact Eq.refl (some 10) | exact Eq.refl (some 11) | exact offAdd_zero rfl | exact offAdd_of (k := 1) rfl | exact offAdd_of (k := 2) rfl | exact offAdd_of (k := 3) rfl | exact offAdd_of (k := 4) rfl | exact offAdd_of (k := 5) rfl | exact offAdd_of (k := 6) rfl | exact offAdd_of (k := 7) rfl | exact offAdd_of (k := 8) rfl | exact offAdd_of (k := 9) rfl | exact offAdd_of (k := 10) rfl | exact offAdd_of (k := 11) rfl | rfl); omega; omega; (first | (simp only [Int.toNat_natCast, Nat.mul_one, Nat.zero_add, Int.reduceToNat, Nat.reduceMul, Nat.reduceAdd, Nat.zero_mul]; exact rfl) | rfl); rfl) | (apply Still.sliceNil; rfl; rfl; rfl; rfl) | (apply Still.sliceNotNil; rfl; rfl; rfl; rfl) | (apply Still.mapNil; rfl; rfl; rfl; rfl) | (apply Still.ptrNil; rfl; rfl; rfl; rfl) | (apply Still.makeInterface; rfl; rfl) | (apply Still.assertMap; rfl; rfl) | (apply Still.maxI; rfl; rfl; rfl) | (apply Still.minI; rfl; rfl; rfl)) hS rfl ?_
      | (apply RO.op; apply OP.box hS; rfl; rfl; rfl; clear hS; intro b w1 hS)
      | (apply RO.op; apply OP.alloc hS; rfl; rfl; rfl; clear hS; intro b w1 hS)
      | (apply RO.op; apply OP.store hS; rfl; rfl; rfl; rfl; rfl; (focus ((repeat (first | apply Has.head | apply Take.head | apply Put.head | apply Has.tail | apply Take.tail | apply Put.tail)); done)); rfl; rfl; clear hS; intro w1 hS)
      | (apply RO.op; apply OP.buildSlice hS; rfl; rfl; (first | exact Eq.refl (some 0) | exact Eq.refl (some 1) | exact Eq.refl (some 2) | exact Eq.refl (some 3) | exact Eq.refl (some 4) | exact Eq.refl (some 5) | exact Eq.refl (some 6) | exact Eq.refl (some 7) | exact Eq.refl (some 8) | exact Eq.refl (some 9) | exact Eq.refl (some 10) | exact Eq.refl (some 11) | exact offAdd_zero rfl | exact offAdd_of (k := 1) rfl | exact offAdd_of (k := 2) rfl | exact offAdd_of (k := 3) rfl | exact offAdd_of (k := 4) rfl | exact offAdd_of (k := 5) rfl | exact offAdd_of (k := 6) rfl | exact offAdd_of (k := 7) rfl | exact offAdd_of (k := 8) rfl | exact offAdd_of (k := 9) rfl | exact offAdd_of (k := 10) rfl | exact offAdd_of (k := 11) rfl | rfl); rfl; rfl; rfl; rfl; rfl; clear hS; intro b w1 hS)
      | (apply RO.op; apply OP.makeMap hS; rfl; clear hS; intro b w1 hS)
      | refine RO.yes rfl rfl ?_
      | refine RO.no rfl rfl rfl rfl ?_
      | refine RO.noUndef rfl rfl rfl ?_
      | refine RO.noNone rfl rfl rfl ?_
      | refine Run.cond_true rfl ?_
      | refine Run.cond_false rfl ?_
      | refine Run.skip ?_
      | refine Run.block ?_
      | refine Run.inBlock ?_
      | refine Run.exit rfl ?_
    refine Run.weaken (by focus ((repeat (first | exact .nil | refine .cons rfl ?_)); done)) (ih (i + 1, t2, L3) _ ⟨by simp; omega, m2.good, m2.rt, by simp; omega, hden, m2.is, ?_, hS.picks (by focus ((repeat (first | apply Picks.all | apply Picks.nil | (refine Picks.cons (by repeat (first | apply Take.head | apply Take.tail)) ?_) | apply Picks.drop)); done))⟩ (by simp; omega))
    obtain ⟨M, hM⟩ := hext
    obtain ⟨M1, hM1⟩ := m1.ext
    obtain ⟨M2, hM2⟩ := m2.ext
    exact ⟨M ++ M1 ++ M2, by simp only; rw [hM2, hM1, hM]; simp⟩
  · obtain rfl : i = name.size := by omega
    obtain ⟨M, hM⟩ := hext
    have hp1 : has L1 pr = true := by rw [hM]; exact has_append hp
    obtain ⟨L2, h, m1⟩ := made (n := hashN t pr) g1 hr1 (hash_right ht1 hp1) (by omega)
    have l2 := m1.len
    obtain ⟨M1, hM1⟩ := m1.ext
    repeat' first
      | (apply RO.op; apply OP.callF; rfl; rfl; rfl; show Cl _ 15 _ _ _; exact mixHash_is (s := ⟨t, t, .z⟩) m1.eq (hS.take (by focus ((repeat (first | apply Has.head | apply Take.head | apply Put.head | apply Has.tail | apply Take.tail | apply Put.tail)); done))); clear hS; rintro v w1 ⟨rfl, hS⟩)
      | (apply OP.callF; rfl; rfl; rfl; show Cl _ 15 _ _ _; exact mixHash_is (s := ⟨t, t, .z⟩) m1.eq (hS.take (by focus ((repeat (first | apply Has.head | apply Take.head | apply Put.head | apply Has.tail | apply Take.tail | apply Put.tail)); done))); clear hS; rintro v w1 ⟨rfl, hS⟩; refine ⟨(by first | exact hS | exact hS.tail | exact hS.sublist (by repeat (first | exact List.Sublist.refl _ | refine .cons_cons _ ?_ | refine .cons _ ?_))), ?_⟩)
      | refine Run.seq ?_
      | refine Run.region ?_
      | (refine RO.split ?_ ?_ <;> intro hc <;> try (first | (exfalso; omega) | exact absurd rfl hc | exact Bool.noConfusion hc))
      | refine RO.nil ?_
      | refine RO.still (by first | (apply Still.move; rfl) | (apply Still.assign; rfl) | (apply Still.load; rfl; rfl; (first | (focus (apply Rd.own; (repeat (first | apply Has.head | apply Has.tail)); done)) | (focus (apply Rd.ro; (repeat (first | apply List.Mem.head | apply List.Mem.tail)); done)) | (focus ((repeat (first | assumption | apply Rd.tail)); done))); (first | rfl | exact flat_get0 (by assumption) | exact flat_get1 (by assumption) | exact flat_get2 (by assumption) | exact flat_get3 (by assumption) | exact flat_get4 (by assumption))) | (apply Still.fieldAddr; rfl; (first | exact Eq.refl (some 0) | exact Eq.refl (some 1) | exact Eq.refl (some 2) | exact Eq.refl (some 3) | exact Eq.refl (some 4) | exact Eq.refl (some 5) | exact Eq.refl (some 6) | exact Eq.refl (some 7) | exact Eq.refl (some 8) | exact Eq.refl (some 9) | exact Eq.refl (some 10) | exact Eq.refl (some 11) | exact offAdd_zero rfl | exact offAdd_of (k := 1) rfl | exact offAdd_of (k := 2) rfl | exact offAdd_of (k := 3) rfl | exact offAdd_of (k := 4) rfl | exact offAdd_of (k := 5) rfl | exact offAdd_of (k := 6) rfl | exact offAdd_of (k := 7) rfl | exact offAdd_of (k := 8) rfl | exact offAdd_of (k := 9) rfl | exact offAdd_of (k := 10) rfl | exact offAdd_of (k := 11) rfl | rfl)) | (apply Still.nilCheck; rfl) | (apply Still.extract; rfl; rfl) | (apply Still.loadAgg; rfl; rfl; (first | exact Eq.refl (some 0) | exact Eq.refl (some 1) | exact Eq.refl (some 2) | exact Eq.refl (some 3) | exact Eq.refl (some 4) | exact Eq.refl (some 5) | exact Eq.refl (some 6) | exact Eq.refl (some 7) | exact Eq.refl (some 8) | exact Eq.refl (some 9) | exact Eq.refl (some 10) | exact Eq.refl (some 11) | exact offAdd_zero rfl | exact offAdd_of (k := 1) rfl | exact offAdd_of (k := 2) rfl | exact offAdd_of (k := 3) rfl | exact offAdd_of (k := 4) rfl | exact offAdd_of (k := 5) rfl | exact offAdd_of (k := 6) rfl | exact offAdd_of (k := 7) rfl | exact offAdd_of (k := 8) rfl | exact offAdd_of (k := 9) rfl | exact offAdd_of (k := 10) rfl | exact offAdd_of (k := 11) rfl | rfl); (first | (focus (apply Rd.own; (repeat (first | apply Has.head | apply Has.tail)); done)) | (focus (apply Rd.ro; (repeat (first | apply List.Mem.head | apply List.Mem.tail)); done)) | (focus ((repeat (first | assumption | apply Rd.tail)); done))); (first | exact flat_take (by assumption) | rfl); rfl) | (apply Still.pickT; rfl; rfl) | (apply Still.pickF; rfl; rfl) | (apply Still.lss; rfl; rfl) | (apply Still.leq; rfl; rfl) | (apply Still.gtr; rfl; rfl) | (apply Still.geq; rfl; rfl) | (apply Still.eql; rfl; rfl) | (apply Still.neq; rfl; rfl) | (apply Still.not; rfl; rfl) | (apply Still.add; rfl; rfl; (first | exact wrap_i64 (by omega) (by omega) | exact wrap_u64 (by omega) (by omega) | rfl)) | (apply Still.sub; rfl; rfl; (first | exact wrap_i64 (by omega) (by omega) | exact wrap_u64 (by omega) (by omega) | rfl)) | (apply Still.mul; rfl; rfl; (first | exact wrap_i64 (by omega) (by omega) | exact wrap_u64 (by omega) (by omega) | rfl)) | (apply Still.makeFunc; rfl; rfl) | (apply Still.lenSlice; rfl; rfl) | (apply Still.lenString; rfl; rfl) | (apply Still.build; rfl; rfl) | (apply Still.indexAddr; rfl; rfl; rfl; (first | exact Eq.refl (some 0) | exact Eq.refl (some 1) | exact Eq.refl (some 2) | exact Eq.refl (some 3) | exact Eq.refl (some 4) | exact Eq.refl (some 5) | exact Eq.refl (some 6) | exact Eq.refl (some 7) | exact Eq.refl (some 8) | exact Eq.refl (some 9) | exact Eq.refl (some 10) | exact Eq.refl (some 11) | exact offAdd_zero rfl | exact offAdd_of (k := 1) rfl | exact offAdd_of (k := 2) rfl | exact offAdd_of (k := 3) rfl | exact offAdd_of (k := 4) rfl | exact offAdd_of (k := 5) rfl | exact offAdd_of (k := 6) rfl | exact offAdd_of (k := 7) rfl | exact offAdd_of (k := 8) rfl | exact offAdd_of (k := 9) rfl | exact offAdd_of (k := 10) rfl | exact offAdd_of (k := 11) rfl | rfl); omega; omega; (first | (simp only [Int.toNat_natCast, Nat.mul_one, Nat.zero_add, Int.reduceToNat, Nat.reduceMul, Nat.reduceAdd, Nat.zero_mul]; exact rfl) | rfl)) | (apply Still.eqlB; rfl; rfl; rfl) | (apply Still.neqB; rfl; rfl; rfl) | (apply Still.eqlS; rfl; rfl) | (apply Still.neqS; rfl; rfl) | (apply Still.nilCheckF; rfl) | (apply Still.index; rfl; rfl; rfl; rfl; (first | exact Eq.refl (some 0) | exact Eq.refl (some 1) | exact Eq.refl (some 2) | exact Eq.refl (some 3) | exact Eq.refl (some 4) | exact Eq.refl (some 5) | exact Eq.refl (some 6) | exact Eq.refl (some 7) | exact Eq.refl (some 8) | exact Eq.refl (some 9) | exact Eq.refl (some 10) | exact Eq.refl (some 11) | exact offAdd_zero rfl | exact offAdd_of (k := 1) rfl | exact offAdd_of (k := 2) rfl | exact offAdd_of (k := 3) rfl | exact offAdd_of (k := 4) rfl | exact offAdd_of (k := 5) rfl | exact offAdd_of (k := 6) rfl | exact offAdd_of (k := 7) rfl | exact offAdd_of (k := 8) rfl | exact offAdd_of (k := 9) rfl | exact offAdd_of (k := 10) rfl | exact offAdd_of (k := 11) rfl | rfl); omega; omega; (first | (simp only [Int.toNat_natCast, Nat.mul_one, Nat.zero_add, Int.reduceToNat, Nat.reduceMul, Nat.reduceAdd, Nat.zero_mul]; exact rfl) | rfl); rfl) | (apply Still.sliceNil; rfl; rfl; rfl; rfl) | (apply Still.sliceNotNil; rfl; rfl; rfl; rfl) | (apply Still.mapNil; rfl; rfl; rfl; rfl) | (apply Still.ptrNil; rfl; rfl; rfl; rfl) | (apply Still.makeInterface; rfl; rfl) | (apply Still.assertMap; rfl; rfl) | (apply Still.maxI; rfl; rfl; rfl) | (apply Still.minI; rfl; rfl; rfl)) hS rfl ?_
      | (apply RO.op; apply OP.box hS; rfl; rfl; rfl; clear hS; intro b w1 hS)
      | (apply RO.op; apply OP.alloc hS; rfl; rfl; rfl; clear hS; intro b w1 hS)
      | (apply RO.op; apply OP.store hS; rfl; rfl; rfl; rfl; rfl; (focus ((repeat (first | apply Has.head | apply Take.head | apply Put.head | apply Has.tail | apply Take.tail | apply Put.tail)); done)); rfl; rfl; clear hS; intro w1 hS)
      | (apply RO.op; apply OP.buildSlice hS; rfl; rfl; (first | exact Eq.refl (some 0) | exact Eq.refl (some 1) | exact Eq.refl (some 2) | exact Eq.refl (some 3) | exact Eq.refl (some 4) | exact Eq.refl (some 5) | exact Eq.refl (some 6) | exact Eq.refl (some 7) | exact Eq.refl (some 8) | exact Eq.refl (some 9) | exact Eq.refl (some 10) | exact Eq.refl (some 11) | exact offAdd_zero rfl | exact offAdd_of (k := 1) rfl | exact offAdd_of (k := 2) rfl | exact offAdd_of (k := 3) rfl | exact offAdd_of (k := 4) rfl | exact offAdd_of (k := 5) rfl | exact offAdd_of (k := 6) rfl | exact offAdd_of (k := 7) rfl | exact offAdd_of (k := 8) rfl | exact offAdd_of (k := 9) rfl | exact offAdd_of (k := 10) rfl | exact offAdd_of (k := 11) rfl | rfl); rfl; rfl; rfl; rfl; rfl; clear hS; intro b w1 hS)
      | (apply RO.op; apply OP.makeMap hS; rfl; clear hS; intro b w1 hS)
      | refine RO.yes rfl rfl ?_
      | refine RO.no rfl rfl rfl rfl ?_
      | refine RO.noUndef rfl rfl rfl ?_
      | refine RO.noNone rfl rfl rfl ?_
      | refine Run.cond_true rfl ?_
      | refine Run.cond_false rfl ?_
      | refine Run.skip ?_
      | refine Run.block ?_
      | refine Run.inBlock ?_
      | refine Run.exit rfl ?_
    refine Run.ret Try.func10 rfl (.cell rfl (by first | exact run_loadAgg rfl rfl (hS.rd (by first | (focus (apply Rd.own; (repeat (first | apply Has.head | apply Has.tail)); done)) | (focus (apply Rd.ro; (repeat (first | apply List.Mem.head | apply List.Mem.tail)); done)) | (focus ((repeat (first | assumption | apply Rd.tail)); done)))) (by rfl) (by rfl) | exact run_loadScalar rfl (cell_of (hS.rd (by first | (focus (apply Rd.own; (repeat (first | apply Has.head | apply Has.tail)); done)) | (focus (apply Rd.ro; (repeat (first | apply List.Mem.head | apply List.Mem.tail)); done)) | (focus ((repeat (first | assumption | apply Rd.tail)); done)))) (by rfl))) (.tmp rfl .nil)) ?_
    refine ⟨L2, t, h, rfl, ⟨m1.good, m1.rt, by omega, ?_, m1.is, m1.node, m1.has ht1, ⟨M ++ M1, by rw [hM1, hM]; simp⟩⟩, hS.picks (by focus ((repeat (first | apply Picks.all | apply Picks.nil | (refine Picks.cons (by repeat (first | apply Take.head | apply Take.tail)) ?_) | apply Picks.drop)); done))⟩
    have : (bytesI name).take name.size = bytesI name := List.take_of_length_le (by simp [bytesI])
    rw [this] at hd1
    exact hd1.made m1

set_option maxHeartbeats 4000000 in
theorem awake_calls (hS : St we ρ σ w) : Cl Try.prog 8 [] w fun v w' => v = .bool true ∧ St we ρ σ w' := by
  have g0 : Good 30 [Nd.z] := good_new (by omega) (by omega)
  have r0 : Rt [Nd.z] := rt_new
  obtain ⟨L1, x, m1⟩ := made (n := ⟨1, 1, 0, 0, 0⟩) g0 r0 (by simp [right, numbered, many, partOk, has]) (by simp)
  have l1 := m1.len
  simp only [List.length_cons, List.length_nil] at l1
  have z1 := has_zero m1.good
  have hsz : (ByteArray.mk #[78]).size ≤ 100 := by decide
  have hsz2 : L1.length + 2 * (ByteArray.mk #[78]).size < 30 := by show L1.length + 2 * 1 < 30; omega
  refine Run.calls0 (n := 106) Try.func8 rfl rfl ?_
  repeat' first
    | (apply RO.op; apply OP.callF; rfl; rfl; rfl; show Cl _ 7 _ _ _; exact new_calls hS; clear hS; rintro v w1 ⟨p, rfl, hS⟩; replace hS : St we ρ (Arena p 30 [Nd.z] :: σ) w1 := hS)
    | (apply OP.callF; rfl; rfl; rfl; show Cl _ 7 _ _ _; exact new_calls hS; clear hS; rintro v w1 ⟨p, rfl, hS⟩; replace hS : St we ρ (Arena p 30 [Nd.z] :: σ) w1 := hS; refine ⟨(by first | exact hS | exact hS.tail | exact hS.sublist (by repeat (first | exact List.Sublist.refl _ | refine .cons_cons _ ?_ | refine .cons _ ?_))), ?_⟩)
    | (apply RO.op; apply OP.callF; rfl; rfl; rfl; show Cl _ 9 _ _ _; exact mk_is m1.eq (hS.take (by focus ((repeat (first | apply Has.head | apply Take.head | apply Put.head | apply Has.tail | apply Take.tail | apply Put.tail)); done))); clear hS; rintro v w1 ⟨rfl, hS⟩)
    | (apply OP.callF; rfl; rfl; rfl; show Cl _ 9 _ _ _; exact mk_is m1.eq (hS.take (by focus ((repeat (first | apply Has.head | apply Take.head | apply Put.head | apply Has.tail | apply Take.tail | apply Put.tail)); done))); clear hS; rintro v w1 ⟨rfl, hS⟩; refine ⟨(by first | exact hS | exact hS.tail | exact hS.sublist (by repeat (first | exact List.Sublist.refl _ | refine .cons_cons _ ?_ | refine .cons _ ?_))), ?_⟩)
    | (apply RO.op; apply OP.callF; rfl; rfl; rfl; show Cl _ 10 _ _ _; exact begin_calls (name := ⟨#[78]⟩) hsz z1 m1.good m1.rt hsz2 (hS.take (by focus ((repeat (first | apply Has.head | apply Take.head | apply Put.head | apply Has.tail | apply Take.tail | apply Put.tail)); done))); clear hS; rintro v w1 ⟨L2, t, h, rfl, ⟨g2, r2, l2, hden, hh, hnd, ht, hext⟩, hS⟩)
    | (apply OP.callF; rfl; rfl; rfl; show Cl _ 10 _ _ _; exact begin_calls (name := ⟨#[78]⟩) hsz z1 m1.good m1.rt hsz2 (hS.take (by focus ((repeat (first | apply Has.head | apply Take.head | apply Put.head | apply Has.tail | apply Take.tail | apply Put.tail)); done))); clear hS; rintro v w1 ⟨L2, t, h, rfl, ⟨g2, r2, l2, hden, hh, hnd, ht, hext⟩, hS⟩; refine ⟨(by first | exact hS | exact hS.tail | exact hS.sublist (by repeat (first | exact List.Sublist.refl _ | refine .cons_cons _ ?_ | refine .cons _ ?_))), ?_⟩)
    | refine Run.seq ?_
    | refine Run.region ?_
    | (refine RO.split ?_ ?_ <;> intro hc <;> try (first | (exfalso; omega) | exact absurd rfl hc | exact Bool.noConfusion hc))
    | refine RO.nil ?_
    | refine RO.still (by first | (apply Still.move; rfl) | (apply Still.assign; rfl) | (apply Still.load; rfl; rfl; (first | (focus (apply Rd.own; (repeat (first | apply Has.head | apply Has.tail)); done)) | (focus (apply Rd.ro; (repeat (first | apply List.Mem.head | apply List.Mem.tail)); done)) | (focus ((repeat (first | assumption | apply Rd.tail)); done))); (first | rfl | exact flat_get0 (by assumption) | exact flat_get1 (by assumption) | exact flat_get2 (by assumption) | exact flat_get3 (by assumption) | exact flat_get4 (by assumption))) | (apply Still.fieldAddr; rfl; (first | exact Eq.refl (some 0) | exact Eq.refl (some 1) | exact Eq.refl (some 2) | exact Eq.refl (some 3) | exact Eq.refl (some 4) | exact Eq.refl (some 5) | exact Eq.refl (some 6) | exact Eq.refl (some 7) | exact Eq.refl (some 8) | exact Eq.refl (some 9) | exact Eq.refl (some 10) | exact Eq.refl (some 11) | exact offAdd_zero rfl | exact offAdd_of (k := 1) rfl | exact offAdd_of (k := 2) rfl | exact offAdd_of (k := 3) rfl | exact offAdd_of (k := 4) rfl | exact offAdd_of (k := 5) rfl | exact offAdd_of (k := 6) rfl | exact offAdd_of (k := 7) rfl | exact offAdd_of (k := 8) rfl | exact offAdd_of (k := 9) rfl | exact offAdd_of (k := 10) rfl | exact offAdd_of (k := 11) rfl | rfl)) | (apply Still.nilCheck; rfl) | (apply Still.extract; rfl; rfl) | (apply Still.loadAgg; rfl; rfl; (first | exact Eq.refl (some 0) | exact Eq.refl (some 1) | exact Eq.refl (some 2) | exact Eq.refl (some 3) | exact Eq.refl (some 4) | exact Eq.refl (some 5) | exact Eq.refl (some 6) | exact Eq.refl (some 7) | exact Eq.refl (some 8) | exact Eq.refl (some 9) | exact Eq.refl (some 10) | exact Eq.refl (some 11) | exact offAdd_zero rfl | exact offAdd_of (k := 1) rfl | exact offAdd_of (k := 2) rfl | exact offAdd_of (k := 3) rfl | exact offAdd_of (k := 4) rfl | exact offAdd_of (k := 5) rfl | exact offAdd_of (k := 6) rfl | exact offAdd_of (k := 7) rfl | exact offAdd_of (k := 8) rfl | exact offAdd_of (k := 9) rfl | exact offAdd_of (k := 10) rfl | exact offAdd_of (k := 11) rfl | rfl); (first | (focus (apply Rd.own; (repeat (first | apply Has.head | apply Has.tail)); done)) | (focus (apply Rd.ro; (repeat (first | apply List.Mem.head | apply List.Mem.tail)); done)) | (focus ((repeat (first | assumption | apply Rd.tail)); done))); (first | exact flat_take (by assumption) | rfl); rfl) | (apply Still.pickT; rfl; rfl) | (apply Still.pickF; rfl; rfl) | (apply Still.lss; rfl; rfl) | (apply Still.leq; rfl; rfl) | (apply Still.gtr; rfl; rfl) | (apply Still.geq; rfl; rfl) | (apply Still.eql; rfl; rfl) | (apply Still.neq; rfl; rfl) | (apply Still.not; rfl; rfl) | (apply Still.add; rfl; rfl; (first | exact wrap_i64 (by omega) (by omega) | exact wrap_u64 (by omega) (by omega) | rfl)) | (apply Still.sub; rfl; rfl; (first | exact wrap_i64 (by omega) (by omega) | exact wrap_u64 (by omega) (by omega) | rfl)) | (apply Still.mul; rfl; rfl; (first | exact wrap_i64 (by omega) (by omega) | exact wrap_u64 (by omega) (by omega) | rfl)) | (apply Still.makeFunc; rfl; rfl) | (apply Still.lenSlice; rfl; rfl) | (apply Still.lenString; rfl; rfl) | (apply Still.build; rfl; rfl) | (apply Still.indexAddr; rfl; rfl; rfl; (first | exact Eq.refl (some 0) | exact Eq.refl (some 1) | exact Eq.refl (some 2) | exact Eq.refl (some 3) | exact Eq.refl (some 4) | exact Eq.refl (some 5) | exact Eq.refl (some 6) | exact Eq.refl (some 7) | exact Eq.refl (some 8) | exact Eq.refl (some 9) | exact Eq.refl (some 10) | exact Eq.refl (some 11) | exact offAdd_zero rfl | exact offAdd_of (k := 1) rfl | exact offAdd_of (k := 2) rfl | exact offAdd_of (k := 3) rfl | exact offAdd_of (k := 4) rfl | exact offAdd_of (k := 5) rfl | exact offAdd_of (k := 6) rfl | exact offAdd_of (k := 7) rfl | exact offAdd_of (k := 8) rfl | exact offAdd_of (k := 9) rfl | exact offAdd_of (k := 10) rfl | exact offAdd_of (k := 11) rfl | rfl); omega; omega; (first | (simp only [Int.toNat_natCast, Nat.mul_one, Nat.zero_add, Int.reduceToNat, Nat.reduceMul, Nat.reduceAdd, Nat.zero_mul]; exact rfl) | rfl)) | (apply Still.eqlB; rfl; rfl; rfl) | (apply Still.neqB; rfl; rfl; rfl) | (apply Still.eqlS; rfl; rfl) | (apply Still.neqS; rfl; rfl) | (apply Still.nilCheckF; rfl) | (apply Still.index; rfl; rfl; rfl; rfl; (first | exact Eq.refl (some 0) | exact Eq.refl (some 1) | exact Eq.refl (some 2) | exact Eq.refl (some 3) | exact Eq.refl (some 4) | exact Eq.refl (some 5) | exact Eq.refl (some 6) | exact Eq.refl (some 7) | exact Eq.refl (some 8) | exact Eq.refl (some 9) | exact Eq.refl (some 10) | exact Eq.refl (some 11) | exact offAdd_zero rfl | exact offAdd_of (k := 1) rfl | exact offAdd_of (k := 2) rfl | exact offAdd_of (k := 3) rfl | exact offAdd_of (k := 4) rfl | exact offAdd_of (k := 5) rfl | exact offAdd_of (k := 6) rfl | exact offAdd_of (k := 7) rfl | exact offAdd_of (k := 8) rfl | exact offAdd_of (k := 9) rfl | exact offAdd_of (k := 10) rfl | exact offAdd_of (k := 11) rfl | rfl); omega; omega; (first | (simp only [Int.toNat_natCast, Nat.mul_one, Nat.zero_add, Int.reduceToNat, Nat.reduceMul, Nat.reduceAdd, Nat.zero_mul]; exact rfl) | rfl); rfl) | (apply Still.sliceNil; rfl; rfl; rfl; rfl) | (apply Still.sliceNotNil; rfl; rfl; rfl; rfl) | (apply Still.mapNil; rfl; rfl; rfl; rfl) | (apply Still.ptrNil; rfl; rfl; rfl; rfl) | (apply Still.makeInterface; rfl; rfl) | (apply Still.assertMap; rfl; rfl) | (apply Still.maxI; rfl; rfl; rfl) | (apply Still.minI; rfl; rfl; rfl)) hS rfl ?_
    | (apply RO.op; apply OP.box hS; rfl; rfl; rfl; clear hS; intro b w1 hS)
    | (apply RO.op; apply OP.alloc hS; rfl; rfl; rfl; clear hS; intro b w1 hS)
    | (apply RO.op; apply OP.store hS; rfl; rfl; rfl; rfl; rfl; (focus ((repeat (first | apply Has.head | apply Take.head | apply Put.head | apply Has.tail | apply Take.tail | apply Put.tail)); done)); rfl; rfl; clear hS; intro w1 hS)
    | (apply RO.op; apply OP.buildSlice hS; rfl; rfl; (first | exact Eq.refl (some 0) | exact Eq.refl (some 1) | exact Eq.refl (some 2) | exact Eq.refl (some 3) | exact Eq.refl (some 4) | exact Eq.refl (some 5) | exact Eq.refl (some 6) | exact Eq.refl (some 7) | exact Eq.refl (some 8) | exact Eq.refl (some 9) | exact Eq.refl (some 10) | exact Eq.refl (some 11) | exact offAdd_zero rfl | exact offAdd_of (k := 1) rfl | exact offAdd_of (k := 2) rfl | exact offAdd_of (k := 3) rfl | exact offAdd_of (k := 4) rfl | exact offAdd_of (k := 5) rfl | exact offAdd_of (k := 6) rfl | exact offAdd_of (k := 7) rfl | exact offAdd_of (k := 8) rfl | exact offAdd_of (k := 9) rfl | exact offAdd_of (k := 10) rfl | exact offAdd_of (k := 11) rfl | rfl); rfl; rfl; rfl; rfl; rfl; clear hS; intro b w1 hS)
    | (apply RO.op; apply OP.makeMap hS; rfl; clear hS; intro b w1 hS)
    | refine RO.yes rfl rfl ?_
    | refine RO.no rfl rfl rfl rfl ?_
    | refine RO.noUndef rfl rfl rfl ?_
    | refine RO.noNone rfl rfl rfl ?_
    | refine Run.cond_true rfl ?_
    | refine Run.cond_false rfl ?_
    | refine Run.skip ?_
    | refine Run.block ?_
    | refine Run.inBlock ?_
    | refine Run.exit rfl ?_
  replace l2 : L2.length ≤ L1.length + 2 * 1 + 1 := l2
  obtain ⟨L3, y1, L4, y2, m3, m4⟩ := keys_step (ck := t) (x := x) g2 r2 ht (ext_has hext m1.is) (by omega)
  have l3 := m3.len
  have l4 := m4.len
  obtain ⟨L5, d, q, L6, yh, hseal, m5, hopen, hagain, hd, _, l6, hext6⟩ := seal_step (s := ⟨y1, h, ⟨y2, true, 0⟩⟩) (x := x) m4.good m4.rt (m4.has (m3.has hh)) (m4.has (m3.has (ext_has hext m1.is))) (fun _ => ⟨m4.is, by simp, by simp⟩) (by omega)
  obtain rfl := hd rfl
  have hne : yh ≠ h := by
    intro e
    have a1 := m5.node
    have a2 : nd L6 h = hashN t 0 := by rw [ext_nd hext6 (m4.has (m3.has hh)), m4.nd (m3.has hh), m3.nd hh]; exact hnd
    rw [e, a2] at a1
    simp only [hashN, Nd.mk.injEq, true_and, and_true] at a1
    have a3 := hden.kind g2
    rw [a1.1] at a3
    have a4 : (nd L2 h).k ≠ 5 := a3
    rw [hnd] at a4
    exact a4 rfl
  repeat' first
    | (apply RO.op; apply OP.callF; rfl; rfl; rfl; show Cl _ 16 _ _ _; exact mixKey_is (s := ⟨t, h, .z⟩) m3.eq m4.eq (hS.take (by focus ((repeat (first | apply Has.head | apply Take.head | apply Put.head | apply Has.tail | apply Take.tail | apply Put.tail)); done))); clear hS; rintro v w1 ⟨rfl, hS⟩)
    | (apply OP.callF; rfl; rfl; rfl; show Cl _ 16 _ _ _; exact mixKey_is (s := ⟨t, h, .z⟩) m3.eq m4.eq (hS.take (by focus ((repeat (first | apply Has.head | apply Take.head | apply Put.head | apply Has.tail | apply Take.tail | apply Put.tail)); done))); clear hS; rintro v w1 ⟨rfl, hS⟩; refine ⟨(by first | exact hS | exact hS.tail | exact hS.sublist (by repeat (first | exact List.Sublist.refl _ | refine .cons_cons _ ?_ | refine .cons _ ?_))), ?_⟩)
    | (apply RO.op; apply OP.callF; rfl; rfl; rfl; show Cl _ 18 _ _ _; exact symSeal_is (s := ⟨y1, h, ⟨y2, true, 0⟩⟩) hseal m5.eq (hS.take (by focus ((repeat (first | apply Has.head | apply Take.head | apply Put.head | apply Has.tail | apply Take.tail | apply Put.tail)); done))); clear hS; rintro v w1 ⟨rfl, hS⟩)
    | (apply OP.callF; rfl; rfl; rfl; show Cl _ 18 _ _ _; exact symSeal_is (s := ⟨y1, h, ⟨y2, true, 0⟩⟩) hseal m5.eq (hS.take (by focus ((repeat (first | apply Has.head | apply Take.head | apply Put.head | apply Has.tail | apply Take.tail | apply Put.tail)); done))); clear hS; rintro v w1 ⟨rfl, hS⟩; refine ⟨(by first | exact hS | exact hS.tail | exact hS.sublist (by repeat (first | exact List.Sublist.refl _ | refine .cons_cons _ ?_ | refine .cons _ ?_))), ?_⟩)
    | (apply RO.op; apply OP.callF; rfl; rfl; rfl; show Cl _ 19 _ _ _; exact symOpen_is (s := ⟨y1, h, ⟨y2, true, 0⟩⟩) hopen hagain (hS.take (by focus ((repeat (first | apply Has.head | apply Take.head | apply Put.head | apply Has.tail | apply Take.tail | apply Put.tail)); done))); clear hS; rintro v w1 ⟨rfl, hS⟩)
    | (apply OP.callF; rfl; rfl; rfl; show Cl _ 19 _ _ _; exact symOpen_is (s := ⟨y1, h, ⟨y2, true, 0⟩⟩) hopen hagain (hS.take (by focus ((repeat (first | apply Has.head | apply Take.head | apply Put.head | apply Has.tail | apply Take.tail | apply Put.tail)); done))); clear hS; rintro v w1 ⟨rfl, hS⟩; refine ⟨(by first | exact hS | exact hS.tail | exact hS.sublist (by repeat (first | exact List.Sublist.refl _ | refine .cons_cons _ ?_ | refine .cons _ ?_))), ?_⟩)
    | (refine RO.still (by apply Still.eqlSy; rfl; rfl) hS rfl ?_; rw [sy_eq])
    | refine Run.seq ?_
    | refine Run.region ?_
    | (refine RO.split ?_ ?_ <;> intro hc <;> try (first | (exfalso; omega) | exact absurd rfl hc | exact Bool.noConfusion hc))
    | refine RO.nil ?_
    | refine RO.still (by first | (apply Still.move; rfl) | (apply Still.assign; rfl) | (apply Still.load; rfl; rfl; (first | (focus (apply Rd.own; (repeat (first | apply Has.head | apply Has.tail)); done)) | (focus (apply Rd.ro; (repeat (first | apply List.Mem.head | apply List.Mem.tail)); done)) | (focus ((repeat (first | assumption | apply Rd.tail)); done))); (first | rfl | exact flat_get0 (by assumption) | exact flat_get1 (by assumption) | exact flat_get2 (by assumption) | exact flat_get3 (by assumption) | exact flat_get4 (by assumption))) | (apply Still.fieldAddr; rfl; (first | exact Eq.refl (some 0) | exact Eq.refl (some 1) | exact Eq.refl (some 2) | exact Eq.refl (some 3) | exact Eq.refl (some 4) | exact Eq.refl (some 5) | exact Eq.refl (some 6) | exact Eq.refl (some 7) | exact Eq.refl (some 8) | exact Eq.refl (some 9) | exact Eq.refl (some 10) | exact Eq.refl (some 11) | exact offAdd_zero rfl | exact offAdd_of (k := 1) rfl | exact offAdd_of (k := 2) rfl | exact offAdd_of (k := 3) rfl | exact offAdd_of (k := 4) rfl | exact offAdd_of (k := 5) rfl | exact offAdd_of (k := 6) rfl | exact offAdd_of (k := 7) rfl | exact offAdd_of (k := 8) rfl | exact offAdd_of (k := 9) rfl | exact offAdd_of (k := 10) rfl | exact offAdd_of (k := 11) rfl | rfl)) | (apply Still.nilCheck; rfl) | (apply Still.extract; rfl; rfl) | (apply Still.loadAgg; rfl; rfl; (first | exact Eq.refl (some 0) | exact Eq.refl (some 1) | exact Eq.refl (some 2) | exact Eq.refl (some 3) | exact Eq.refl (some 4) | exact Eq.refl (some 5) | exact Eq.refl (some 6) | exact Eq.refl (some 7) | exact Eq.refl (some 8) | exact Eq.refl (some 9) | exact Eq.refl (some 10) | exact Eq.refl (some 11) | exact offAdd_zero rfl | exact offAdd_of (k := 1) rfl | exact offAdd_of (k := 2) rfl | exact offAdd_of (k := 3) rfl | exact offAdd_of (k := 4) rfl | exact offAdd_of (k := 5) rfl | exact offAdd_of (k := 6) rfl | exact offAdd_of (k := 7) rfl | exact offAdd_of (k := 8) rfl | exact offAdd_of (k := 9) rfl | exact offAdd_of (k := 10) rfl | exact offAdd_of (k := 11) rfl | rfl); (first | (focus (apply Rd.own; (repeat (first | apply Has.head | apply Has.tail)); done)) | (focus (apply Rd.ro; (repeat (first | apply List.Mem.head | apply List.Mem.tail)); done)) | (focus ((repeat (first | assumption | apply Rd.tail)); done))); (first | exact flat_take (by assumption) | rfl); rfl) | (apply Still.pickT; rfl; rfl) | (apply Still.pickF; rfl; rfl) | (apply Still.lss; rfl; rfl) | (apply Still.leq; rfl; rfl) | (apply Still.gtr; rfl; rfl) | (apply Still.geq; rfl; rfl) | (apply Still.eql; rfl; rfl) | (apply Still.neq; rfl; rfl) | (apply Still.not; rfl; rfl) | (apply Still.add; rfl; rfl; (first | exact wrap_i64 (by omega) (by omega) | exact wrap_u64 (by omega) (by omega) | rfl)) | (apply Still.sub; rfl; rfl; (first | exact wrap_i64 (by omega) (by omega) | exact wrap_u64 (by omega) (by omega) | rfl)) | (apply Still.mul; rfl; rfl; (first | exact wrap_i64 (by omega) (by omega) | exact wrap_u64 (by omega) (by omega) | rfl)) | (apply Still.makeFunc; rfl; rfl) | (apply Still.lenSlice; rfl; rfl) | (apply Still.lenString; rfl; rfl) | (apply Still.build; rfl; rfl) | (apply Still.indexAddr; rfl; rfl; rfl; (first | exact Eq.refl (some 0) | exact Eq.refl (some 1) | exact Eq.refl (some 2) | exact Eq.refl (some 3) | exact Eq.refl (some 4) | exact Eq.refl (some 5) | exact Eq.refl (some 6) | exact Eq.refl (some 7) | exact Eq.refl (some 8) | exact Eq.refl (some 9) | exact Eq.refl (some 10) | exact Eq.refl (some 11) | exact offAdd_zero rfl | exact offAdd_of (k := 1) rfl | exact offAdd_of (k := 2) rfl | exact offAdd_of (k := 3) rfl | exact offAdd_of (k := 4) rfl | exact offAdd_of (k := 5) rfl | exact offAdd_of (k := 6) rfl | exact offAdd_of (k := 7) rfl | exact offAdd_of (k := 8) rfl | exact offAdd_of (k := 9) rfl | exact offAdd_of (k := 10) rfl | exact offAdd_of (k := 11) rfl | rfl); omega; omega; (first | (simp only [Int.toNat_natCast, Nat.mul_one, Nat.zero_add, Int.reduceToNat, Nat.reduceMul, Nat.reduceAdd, Nat.zero_mul]; exact rfl) | rfl)) | (apply Still.eqlB; rfl; rfl; rfl) | (apply Still.neqB; rfl; rfl; rfl) | (apply Still.eqlS; rfl; rfl) | (apply Still.neqS; rfl; rfl) | (apply Still.nilCheckF; rfl) | (apply Still.index; rfl; rfl; rfl; rfl; (first | exact Eq.refl (some 0) | exact Eq.refl (some 1) | exact Eq.refl (some 2) | exact Eq.refl (some 3) | exact Eq.refl (some 4) | exact Eq.refl (some 5) | exact Eq.refl (some 6) | exact Eq.refl (some 7) | exact Eq.refl (some 8) | exact Eq.refl (some 9) | exact Eq.refl (some 10) | exact Eq.refl (some 11) | exact offAdd_zero rfl | exact offAdd_of (k := 1) rfl | exact offAdd_of (k := 2) rfl | exact offAdd_of (k := 3) rfl | exact offAdd_of (k := 4) rfl | exact offAdd_of (k := 5) rfl | exact offAdd_of (k := 6) rfl | exact offAdd_of (k := 7) rfl | exact offAdd_of (k := 8) rfl | exact offAdd_of (k := 9) rfl | exact offAdd_of (k := 10) rfl | exact offAdd_of (k := 11) rfl | rfl); omega; omega; (first | (simp only [Int.toNat_natCast, Nat.mul_one, Nat.zero_add, Int.reduceToNat, Nat.reduceMul, Nat.reduceAdd, Nat.zero_mul]; exact rfl) | rfl); rfl) | (apply Still.sliceNil; rfl; rfl; rfl; rfl) | (apply Still.sliceNotNil; rfl; rfl; rfl; rfl) | (apply Still.mapNil; rfl; rfl; rfl; rfl) | (apply Still.ptrNil; rfl; rfl; rfl; rfl) | (apply Still.makeInterface; rfl; rfl) | (apply Still.assertMap; rfl; rfl) | (apply Still.maxI; rfl; rfl; rfl) | (apply Still.minI; rfl; rfl; rfl)) hS rfl ?_
    | (apply RO.op; apply OP.box hS; rfl; rfl; rfl; clear hS; intro b w1 hS)
    | (apply RO.op; apply OP.alloc hS; rfl; rfl; rfl; clear hS; intro b w1 hS)
    | (apply RO.op; apply OP.store hS; rfl; rfl; rfl; rfl; rfl; (focus ((repeat (first | apply Has.head | apply Take.head | apply Put.head | apply Has.tail | apply Take.tail | apply Put.tail)); done)); rfl; rfl; clear hS; intro w1 hS)
    | (apply RO.op; apply OP.buildSlice hS; rfl; rfl; (first | exact Eq.refl (some 0) | exact Eq.refl (some 1) | exact Eq.refl (some 2) | exact Eq.refl (some 3) | exact Eq.refl (some 4) | exact Eq.refl (some 5) | exact Eq.refl (some 6) | exact Eq.refl (some 7) | exact Eq.refl (some 8) | exact Eq.refl (some 9) | exact Eq.refl (some 10) | exact Eq.refl (some 11) | exact offAdd_zero rfl | exact offAdd_of (k := 1) rfl | exact offAdd_of (k := 2) rfl | exact offAdd_of (k := 3) rfl | exact offAdd_of (k := 4) rfl | exact offAdd_of (k := 5) rfl | exact offAdd_of (k := 6) rfl | exact offAdd_of (k := 7) rfl | exact offAdd_of (k := 8) rfl | exact offAdd_of (k := 9) rfl | exact offAdd_of (k := 10) rfl | exact offAdd_of (k := 11) rfl | rfl); rfl; rfl; rfl; rfl; rfl; clear hS; intro b w1 hS)
    | (apply RO.op; apply OP.makeMap hS; rfl; clear hS; intro b w1 hS)
    | refine RO.yes rfl rfl ?_
    | refine RO.no rfl rfl rfl rfl ?_
    | refine RO.noUndef rfl rfl rfl ?_
    | refine RO.noNone rfl rfl rfl ?_
    | refine Run.cond_true rfl ?_
    | refine Run.cond_false rfl ?_
    | refine Run.skip ?_
    | refine Run.block ?_
    | refine Run.inBlock ?_
    | refine Run.exit rfl ?_
  rotate_left
  · exact absurd hne hc
  refine Run.ret Try.func8 rfl (.tmp rfl .nil) ?_
  exact ⟨rfl, hS.picks (by focus ((repeat (first | apply Picks.all | apply Picks.nil | (refine Picks.cons (by repeat (first | apply Take.head | apply Take.tail)) ?_) | apply Picks.drop)); done))⟩
end
end Go.Proofs.Ytcipboenhfakoaa
