/-
  What single operations do, for the walk over an environment. Holds of every program.
-/
import Derived.Test.YthejfodjielahaaRun
namespace Go.Proofs.Ythejfodjielahaa
set_option maxRecDepth 8000
set_option linter.unusedSimpArgs false
set_option linter.unusedVariables false
open Go Go.RowKit

/-- Is a type a struct's or an array's? -/
def aggB (P : Program) (t : TypeId) : Option Bool :=
  match P.underlying t with
  | some (.struct _) => some true
  | some (.array _ _) => some true
  | some _ => some false
  | none => none
def sizeB (P : Program) (t : TypeId) : Option Nat := (P.info? t).map (·.size)
def bytesB (P : Program) (t : TypeId) : Option Nat := (P.info? t).map (·.bytes)
def zeroB (P : Program) (t : TypeId) : Option Value := (P.info? t).bind (·.zero)
/-- A field's place, where the field is not of no size. -/
def offB (P : Program) (t : TypeId) (i : Nat) : Option Nat :=
  match P.underlying t with
  | some (.struct fs) => match fs[i]? with
    | some f => match P.info? f.type with
      | some inf => if inf.size = 0 then none else some f.offset
      | none => none
    | none => none
  | _ => none
def offAdd (P : Program) (t : TypeId) (i off : Nat) : Option Nat := (offB P t i).map (off + ·)
theorem offAdd_zero {P : Program} {t : TypeId} {i off : Nat} (h : offB P t i = some 0) : offAdd P t i off = some off := by simp [offAdd, h]
theorem offAdd_of {P : Program} {t : TypeId} {i off k : Nat} (h : offB P t i = some k) : offAdd P t i off = some (off + k) := by simp [offAdd, h]
/-- The type of a slice's or array's elements. -/
def elemB (P : Program) (t : TypeId) : Option TypeId :=
  match P.underlying t with
  | some (.slice e) => some e
  | _ => none

theorem run_isAgg {P : Program} {t : TypeId} {b : Bool} (h : aggB P t = some b) (w : World) : (isAgg t).run P w = .ok b w := by
  unfold aggB at h
  cases hu : P.underlying t with
  | none => simp [hu] at h
  | some d => cases d <;> simp [hu] at h <;> subst h <;> simp [isAgg, run_underlying hu]
theorem run_sizeOf {P : Program} {t : TypeId} {m : Nat} (h : sizeB P t = some m) (w : World) : (sizeOf t).run P w = .ok m w := by
  unfold sizeB at h
  cases hi : P.info? t with
  | none => simp [hi] at h
  | some i => simp [hi] at h; subst h; simp [sizeOf, typeInfo, hi]
theorem run_zero {P : Program} {t : TypeId} {v : Value} (h : zeroB P t = some v) (w : World) : (zeroValue t).run P w = .ok v w := by
  unfold zeroB at h
  cases hi : P.info? t with
  | none => simp [hi] at h
  | some i => simp [hi] at h; simp [zeroValue, typeInfo, hi, h]
theorem run_elem {P : Program} {t e : TypeId} (h : elemB P t = some e) : P.underlying t = some (.slice e) := by
  unfold elemB at h
  cases hu : P.underlying t with
  | none => simp [hu] at h
  | some d => cases d <;> simp [hu] at h; subst h; rfl

/-- What operands are known to be. -/
def evs (e : Env) : List Operand → Option (List Value)
  | [] => some []
  | o :: l => match ev e o, evs e l with
    | some v, some r => some (v :: r)
    | _, _ => none

section
variable {P : Program} {n : Nat} {e : Env} {S : World → Prop} {ty : TypeId} {x y z : Operand} {u v : Value}

theorem Still.move (hx : ev e x = some v) : Still P n e S (.move x) ty v := ⟨fun a w ha _ d pos aft g => by simp [execOp, ha.ev hx]⟩
theorem Still.assign (hx : ev e x = some v) : Still P n e S (.assign x) ty v := ⟨fun a w ha _ d pos aft g => by simp [execOp, ha.ev hx]⟩
theorem Still.pickT (hc : ev e x = some (.bool true)) (hy : ev e y = some v) : Still P n e S (.pick x y z) ty v := ⟨fun a w ha _ d pos aft g => by simp [execOp, ha.ev hc, ha.ev hy, asBool]⟩
theorem Still.pickF (hc : ev e x = some (.bool false)) (hz : ev e z = some v) : Still P n e S (.pick x y z) ty v := ⟨fun a w ha _ d pos aft g => by simp [execOp, ha.ev hc, ha.ev hz, asBool]⟩
theorem Still.nilCheck {p : Addr} (hx : ev e x = some (.pointer (some p))) : Still P n e S (.nilCheck x) ty (.pointer (some p)) := ⟨fun a w ha _ d pos aft g => by simp [execOp, ha.ev hx]⟩
theorem Still.nilCheckF {f : FuncId} {p q : Array Value} (hx : ev e x = some (.func (.func f) p q)) : Still P n e S (.nilCheck x) ty (.func (.func f) p q) := ⟨fun a w ha _ d pos aft g => by simp [execOp, ha.ev hx]⟩
theorem Still.extract {vs : Array Value} {i : Nat} (hx : ev e x = some (.tuple vs)) (hv : vs[i]? = some v) : Still P n e S (.extract x i) ty v := Still.mk fun a w ha _ d pos aft g => by
  simp [execOp, ha.ev hx, Instr.extract, hv]
theorem Still.not {b c : Bool} {t : TypeId} (hx : ev e x = some (.bool b)) (hc : (!b) = c) : Still P n e S (.unOp .not t x) ty (.bool c) := Still.mk fun a w ha _ d pos aft g => by
  subst hc; simp [execOp, ha.ev hx, Op.unary, Op.intArith]
theorem Still.neg {k : IntKind} {p c : Int} {t : TypeId} (hx : ev e x = some (.int k p)) (hc : k.wrap (-p) = c) : Still P n e S (.unOp .neg t x) ty (.int k c) := Still.mk fun a w ha _ d pos aft g => by
  subst hc; simp [execOp, ha.ev hx, Op.unary, Op.intArith]
theorem evs_run {a : Act} (ha : Ok n e a) : ∀ {l : List Operand} {r : List Value}, evs e l = some r → l.map a.eval = r
  | [], r, h => by simp [evs] at h; simp [h]
  | o :: l, r, h => by
    simp only [evs] at h
    cases ho : ev e o with
    | none => simp [ho] at h
    | some v =>
      cases hl : evs e l with
      | none => simp [ho, hl] at h
      | some r' => simp [ho, hl] at h; subst h; simp [ha.ev ho, evs_run ha hl]
theorem evs_arr {l : List Operand} {r : List Value} {a : Act} (ha : Ok n e a) (h : evs e l = some r) : l.toArray.map a.eval = r.toArray := by
  rw [← evs_run ha h]; simp
theorem Still.makeFunc {fn : Fn} {l1 l2 : List Operand} {vs us : List Value} (h1 : evs e l1 = some vs) (h2 : evs e l2 = some us) :
    Still P n e S (.makeFunc fn l1.toArray l2.toArray) ty (.func fn vs.toArray us.toArray) := Still.mk fun a w ha _ d pos aft g => by
  simp only [execOp, Instr.makeFunc, Sem.run_bind, Sem.run_pure, Result.andThen_ok, evs_arr ha h1, evs_arr ha h2]
theorem Still.fieldAddr {t : TypeId} {i b off k' : Nat} (hx : ev e x = some (.pointer (some ⟨b, off, none⟩))) (hk' : offAdd P t i off = some k') : Still P n e S (.fieldAddr t x i) ty (.pointer (some ⟨b, k', none⟩)) := by
  refine ⟨fun a w ha _ d pos aft g => ?_⟩
  obtain ⟨k, hk, rfl⟩ : ∃ k, offB P t i = some k ∧ off + k = k' := by
    unfold offAdd at hk'
    cases h : offB P t i with
    | none => simp [h] at hk'
    | some k => simp [h] at hk'; exact ⟨k, rfl, hk'⟩
  unfold offB at hk
  cases hu : P.underlying t with
  | none => simp [hu] at hk
  | some dd =>
    cases dd <;> try (simp [hu] at hk; done)
    rename_i fs
    cases hf : fs[i]? with
    | none => simp [hu, hf] at hk
    | some fd =>
      cases hi : P.info? fd.type with
      | none => simp [hu, hf, hi] at hk
      | some inf =>
        simp [hu, hf, hi] at hk
        obtain ⟨h0, rfl⟩ := hk
        simp [execOp, ha.ev hx, Instr.fieldAt, run_underlying hu, hf, Instr.sureAddr, fieldPlace, sizeOf, typeInfo, hi, h0, Addr.add_lit]
/-! ### Numbers, bools -/
section
variable {k : IntKind} {p q c : Int} {t t' : TypeId}
theorem Still.bin {op : BinOp} (hx : ev e x = some u) (hy : ev e y = some v) (hg : ∀ w : World, (eqGuard op t x y u v).run P w = .ok () w) {r : Value} (hr : ∀ w, S w → (Go.binOp op t u v).run P w = .ok r w) :
    Still P n e S (.binOp op t x y t') ty r := Still.mk fun a w ha hS d pos aft g => by
  simp only [execOp, ha.ev hx, ha.ev hy, Sem.run_bind, hg w, Result.andThen_ok, hr w hS, Sem.run_pure]
theorem guardInt (op : BinOp) (i j : Int) (w : World) : (eqGuard op t x y (.int k i) (.int k j)).run P w = .ok () w := by rw [eqGuard_at_int]; rfl
theorem Still.int {op : BinOp} (hx : ev e x = some (.int k p)) (hy : ev e y = some (.int k q)) {r : Value} (hr : Go.binOp op t (.int k p) (.int k q) = Pure.pure r) : Still P n e S (.binOp op t x y t') ty r :=
  Still.bin hx hy (guardInt op p q) (fun w _ => by rw [hr]; rfl)
theorem Still.lss (hx : ev e x = some (.int k p)) (hy : ev e y = some (.int k q)) : Still P n e S (.binOp .lss t x y t') ty (.bool (decide (p < q))) := Still.int hx hy (binOp_lss t k p q)
theorem Still.leq (hx : ev e x = some (.int k p)) (hy : ev e y = some (.int k q)) : Still P n e S (.binOp .leq t x y t') ty (.bool (decide (p ≤ q))) := Still.int hx hy (binOp_leq t k p q)
theorem Still.gtr (hx : ev e x = some (.int k p)) (hy : ev e y = some (.int k q)) : Still P n e S (.binOp .gtr t x y t') ty (.bool (decide (q < p))) := Still.int hx hy (binOp_gtr t k p q)
theorem Still.geq (hx : ev e x = some (.int k p)) (hy : ev e y = some (.int k q)) : Still P n e S (.binOp .geq t x y t') ty (.bool (decide (q ≤ p))) := Still.int hx hy (binOp_geq t k p q)
theorem Still.eql (hx : ev e x = some (.int k p)) (hy : ev e y = some (.int k q)) : Still P n e S (.binOp .eql t x y t') ty (.bool (decide (p = q))) := Still.int hx hy (binOp_eql t k p q)
theorem Still.neq (hx : ev e x = some (.int k p)) (hy : ev e y = some (.int k q)) : Still P n e S (.binOp .neq t x y t') ty (.bool (decide (p ≠ q))) := Still.int hx hy ((binOp_neq t k p q).trans (by
  by_cases h : p = q
  · simp [h]
  · have h2 : (p != q) = true := by simpa using h
    rw [h2, decide_eq_true h]))
theorem Still.add (hx : ev e x = some (.int k p)) (hy : ev e y = some (.int k q)) (hc : k.wrap (p + q) = c) : Still P n e S (.binOp .add t x y t') ty (.int k c) := by
  subst hc; exact Still.int hx hy ((binOp_add t k p q).trans (by simp [Op.intArith]))
theorem Still.sub (hx : ev e x = some (.int k p)) (hy : ev e y = some (.int k q)) (hc : k.wrap (p - q) = c) : Still P n e S (.binOp .sub t x y t') ty (.int k c) := by
  subst hc; exact Still.int hx hy ((binOp_sub t k p q).trans (by simp [Op.intArith]))
theorem Still.mul (hx : ev e x = some (.int k p)) (hy : ev e y = some (.int k q)) (hc : k.wrap (p * q) = c) : Still P n e S (.binOp .mul t x y t') ty (.int k c) := by
  subst hc; exact Still.int hx hy ((binOp_mul t k p q).trans (by simp [Op.intArith]))
theorem Still.eqlAt {b : Bool} (hx : ev e x = some u) (hy : ev e y = some v) (hg : ∀ w : World, (eqGuard .eql t x y u v).run P w = .ok () w)
    (h0 : Go.binOp .eql t u v = (do Pure.pure (.bool (← Op.equal t u v)))) (h : ∀ w, S w → (Op.equalIn 10000 t u v).run P w = .ok b w) : Still P n e S (.binOp .eql t x y t') ty (.bool b) :=
  Still.bin hx hy hg (fun w hS => by rw [h0, Sem.run_bind]; show Result.andThen ((Op.equalIn 10000 t u v).run P w) _ = _; rw [h w hS]; rfl)
theorem Still.neqAt {b : Bool} (hx : ev e x = some u) (hy : ev e y = some v) (hg : ∀ w : World, (eqGuard .neq t x y u v).run P w = .ok () w)
    (h0 : Go.binOp .neq t u v = (do Pure.pure (.bool (!(← Op.equal t u v))))) (h : ∀ w, S w → (Op.equalIn 10000 t u v).run P w = .ok b w) : Still P n e S (.binOp .neq t x y t') ty (.bool (!b)) :=
  Still.bin hx hy hg (fun w hS => by rw [h0, Sem.run_bind]; show Result.andThen ((Op.equalIn 10000 t u v).run P w) _ = _; rw [h w hS]; rfl)
theorem Still.eqlB {b1 b2 : Bool} (ht : P.underlying t = some .bool) (hx : ev e x = some (.bool b1)) (hy : ev e y = some (.bool b2)) : Still P n e S (.binOp .eql t x y t') ty (.bool (b1 == b2)) :=
  Still.eqlAt hx hy (fun w => by rw [eqGuard_at_bool]; rfl) rfl (fun w _ => run_equalIn_bool w 9999 t b1 b2 ht)
theorem Still.neqB {b1 b2 : Bool} (ht : P.underlying t = some .bool) (hx : ev e x = some (.bool b1)) (hy : ev e y = some (.bool b2)) : Still P n e S (.binOp .neq t x y t') ty (.bool (!(b1 == b2))) :=
  Still.neqAt hx hy (fun w => by rw [eqGuard_at_bool]; rfl) rfl (fun w _ => run_equalIn_bool w 9999 t b1 b2 ht)
theorem bytes_eq (s1 s2 : ByteArray) : (s1.toList == s2.toList) = decide (s1 = s2) := by
  by_cases h : s1 = s2
  · simp [h]
  · rw [decide_eq_false h]
    have : s1.toList ≠ s2.toList := fun h1 => h (by
      rw [ByteArray.toList_eq, ByteArray.toList_eq] at h1
      obtain ⟨⟨x⟩⟩ := s1
      obtain ⟨⟨y⟩⟩ := s2
      simp at h1
      rw [h1])
    simpa using this
theorem Still.eqlS {s1 s2 : ByteArray} (hx : ev e x = some (.string s1)) (hy : ev e y = some (.string s2)) : Still P n e S (.binOp .eql t x y t') ty (.bool (decide (s1 = s2))) :=
  Still.bin hx hy (fun w => by rw [eqGuard_at_string]; rfl) (fun w _ => by
    show (Op.stringOp .eql s1 s2).run P w = _
    simp only [Op.stringOp, bytes_eq]; rfl)
theorem Still.neqS {s1 s2 : ByteArray} (hx : ev e x = some (.string s1)) (hy : ev e y = some (.string s2)) : Still P n e S (.binOp .neq t x y t') ty (.bool (!decide (s1 = s2))) :=
  Still.bin hx hy (fun w => by rw [eqGuard_at_string]; rfl) (fun w _ => by
    show (Op.stringOp .neq s1 s2).run P w = _
    simp only [Op.stringOp, bytes_eq]; rfl)
end
end
theorem wrap_i64 {x : Int} (h1 : -9223372036854775808 ≤ x) (h2 : x ≤ 9223372036854775807) : IntKind.i64.wrap x = x := by
  simp only [IntKind.wrap, IntKind.bits, IntKind.signed]
  simp
  omega
theorem wrap_u64 {x : Int} (h1 : 0 ≤ x) (h2 : x ≤ 18446744073709551615) : IntKind.u64.wrap x = x := by
  simp only [IntKind.wrap, IntKind.bits, IntKind.signed]
  simp
  omega
end Go.Proofs.Ythejfodjielahaa
