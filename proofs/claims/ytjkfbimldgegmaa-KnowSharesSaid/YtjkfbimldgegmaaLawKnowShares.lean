/-
  What the attacker's own name shares with a secret can be made just if the secret's public key is known, or the secret can be made: undertonelaw03.KnowShares is true.
-/
import Derived.Test.YtjkfbimldgegmaaKnow14
namespace Go.Proofs.Ytjkfbimldgegmaa
set_option maxRecDepth 8000
set_option linter.unusedSimpArgs false
set_option linter.unusedVariables false
open Go Go.RowKit

theorem Still.ptrNotNil {P : Program} {n : Nat} {e : Env} {ty : TypeId} {x y : Operand} {t t' : TypeId} {p : Option Addr} {b : Bool} {S : World → Prop} (hx : ev e x = some (.pointer p)) (hy : ev e y = some (.pointer none)) (ht : P.underlying t = some (.pointer (P.pointee t))) (hb : p.isSome = b) :
    Still P n e S (.binOp .neq t x y t') ty (.bool b) := by
  subst hb
  refine Still.bin hx hy (fun w => rfl) (fun w _ => ?_)
  cases p <;> simp [binOp, run_equal_pointer_nil (P := P) w t _ ht]

def sh1 (n : Int) : List Nd := [Nd.z, ⟨1, n, 0, 0, 0⟩]
def sh2 (n m : Int) : List Nd := [Nd.z, ⟨1, n, 0, 0, 0⟩, ⟨1, m, 0, 0, 0⟩]
def sh3 (n m : Int) : List Nd := [Nd.z, ⟨1, n, 0, 0, 0⟩, ⟨1, m, 0, 0, 0⟩, ⟨2, 0, 1, 0, 0⟩]
def sh4 (n m : Int) : List Nd := [Nd.z, ⟨1, n, 0, 0, 0⟩, ⟨1, m, 0, 0, 0⟩, ⟨2, 0, 1, 0, 0⟩, ⟨3, 0, 1, 2, 0⟩]
theorem shm1 (n : Int) : mk 20 [Nd.z] ⟨1, n, 0, 0, 0⟩ = (sh1 n, 1, 0) := by
  simp [mk, right, numbered, many, partOk, find, findAt, Nd.z, sh1]
theorem shm2 {n m : Int} (h : n < m) : mk 20 (sh1 n) ⟨1, m, 0, 0, 0⟩ = (sh2 n m, 2, 0) := by
  have h1 : m ≠ n := by omega
  simp [mk, right, numbered, many, partOk, find, findAt, Nd.z, sh1, sh2, h1]
theorem shm3 (n m : Int) : mk 20 (sh2 n m) ⟨2, 0, 1, 0, 0⟩ = (sh3 n m, 3, 0) := by
  simp [mk, right, numbered, many, partOk, find, findAt, Nd.z, sh2, sh3, has]
theorem shm4 {n m : Int} (h : n < m) : mk 20 (sh3 n m) ⟨3, 0, 1, 2, 0⟩ = (sh4 n m, 4, 0) := by
  have h1 : ¬ m < n := by omega
  have h2 : n ≠ m := by omega
  simp [mk, right, numbered, many, partOk, find, findAt, Nd.z, sh3, sh4, has, nd, cmp, cmpF, lx, sgn, h, h1, h2]
theorem shs {n m : Int} (h : n < m) : share 20 (sh3 n m) 2 3 = (sh4 n m, 4, 0) := by
  have hc : cmp (sh3 n m) 2 1 = 1 := by
    have h1 : ¬ m < n := by omega
    have h2 : m ≠ n := by omega
    simp [cmp, cmpF, sh3, has, nd, lx, sgn, h, h1, h2]
  have e1 : (nd (sh3 n m) 3).k = 2 := rfl
  have e2 : (nd (sh3 n m) 3).a = 1 := rfl
  have e3 : has (sh3 n m) 2 = true ∧ has (sh3 n m) 3 = true := by simp [has, sh3]
  unfold share
  rw [if_pos e3, if_neg (by rw [e1]; simp), e2, hc, if_pos (by omega), shm4 h]
theorem sh_good {n m : Int} (h : n < m) : Good 20 (sh4 n m) := by
  have h0 : Good 20 [Nd.z] := good_new (by omega) (by omega)
  have g1 := mk_good h0 ⟨1, n, 0, 0, 0⟩
  rw [shm1] at g1
  have g2 := mk_good g1 ⟨1, m, 0, 0, 0⟩
  rw [shm2 h] at g2
  have g3 := mk_good g2 ⟨2, 0, 1, 0, 0⟩
  rw [shm3] at g3
  have g4 := mk_good g3 ⟨3, 0, 1, 2, 0⟩
  rw [shm4 h] at g4
  exact g4
theorem sh_kind (n m z : Int) : (nd (sh4 n m) z).k ≤ 3 := by
  unfold nd
  generalize z.toNat = i
  match i with
  | 0 => simp [sh4, Nd.z]
  | 1 => simp [sh4]
  | 2 => simp [sh4]
  | 3 => simp [sh4]
  | 4 => simp [sh4]
  | i + 5 => simp [sh4, Nd.z]
theorem sh_cl (n m : Int) (K : Int → Bool) : cl (sh4 n m) K = K := by
  refine cl_of_closed (closed_of fun z hz x hx => ?_)
  have := sh_kind n m z
  unfold comesOf at hx
  rw [if_neg (by omega), if_neg (fun h => by omega)] at hx
  cases hx
theorem sh_has {n m : Int} {x : Int} (h : 0 ≤ x ∧ x ≤ 4) : has (sh4 n m) x = true := by
  rw [has_iff]
  simp only [sh4, List.length_cons, List.length_nil]
  omega
theorem sh_can {n m : Int} (h : n < m) (hn : n < 4294967296) (hm : 4294967296 ≤ m) (K : Int → Bool) :
    can (sh4 n m) K 1 = K 1 ∧ can (sh4 n m) K 2 = true ∧ can (sh4 n m) K 3 = (K 3 || K 1) ∧ can (sh4 n m) K 4 = (K 4 || (K 1 || (K 3 || K 1))) := by
  have g := sh_good h
  have c1 : can (sh4 n m) K 1 = K 1 := by
    rw [can_eq g K (sh_has (by omega))]
    have : canR (sh4 n m) K (can (sh4 n m) K) 1 = decide (4294967296 ≤ n) := by
      unfold canR
      rw [if_neg (by simp [sh4, nd]), if_pos (by simp [sh4, nd])]
      rfl
    rw [this, decide_eq_false (by omega), Bool.or_false]
  have c2 : can (sh4 n m) K 2 = true := by
    rw [can_eq g K (sh_has (by omega))]
    have : canR (sh4 n m) K (can (sh4 n m) K) 2 = decide (4294967296 ≤ m) := by
      unfold canR
      rw [if_neg (by simp [sh4, nd]), if_pos (by simp [sh4, nd])]
      rfl
    rw [this, decide_eq_true hm, Bool.or_true]
  have c3 : can (sh4 n m) K 3 = (K 3 || K 1) := by
    rw [can_eq g K (sh_has (by omega))]
    have : canR (sh4 n m) K (can (sh4 n m) K) 3 = can (sh4 n m) K 1 := by
      unfold canR
      rw [if_neg (by simp [sh4, nd]), if_neg (by simp [sh4, nd]), if_pos (by simp [sh4, nd])]
      rfl
    rw [this, c1]
  have hp : pubK (sh4 n m) K 1 = K 3 := by
    unfold pubK
    have : find (sh4 n m) ⟨2, 0, 1, 0, 0⟩ = some 3 := by simp [find, findAt, sh4, Nd.z]
    rw [this]; rfl
  refine ⟨c1, c2, c3, ?_⟩
  rw [can_eq g K (sh_has (by omega))]
  have : canR (sh4 n m) K (can (sh4 n m) K) 4 = ((can (sh4 n m) K 1 && (pubK (sh4 n m) K 2 || can (sh4 n m) K 2)) || (can (sh4 n m) K 2 && (pubK (sh4 n m) K 1 || can (sh4 n m) K 1))) := by
    unfold canR
    rw [if_neg (by simp [sh4, nd]), if_neg (by simp [sh4, nd]), if_neg (by simp [sh4, nd]), if_pos (by simp [sh4, nd])]
    rfl
  rw [this, c1, c2, hp, Bool.or_true, Bool.and_true, Bool.true_and]

section
variable {we w : World} {ρ : List (Nat × Obj)} {σ F : List HP} {p lim : Nat} {L : List Nd}

set_option maxHeartbeats 8000000 in
theorem knowShares_law {own n : Int} {hears hs : Bool} (h1 : (Lit.int .u64 own).wf = true) (h2 : (Lit.int .u64 n).wf = true) (hS : St we ρ σ w) :
    Cl Try.prog 8 [.int .u64 own, .int .u64 n, .bool hears, .bool hs] w fun v w' => v = .bool true ∧ St we ρ σ w' := by
  have b1 : 0 ≤ own ∧ own ≤ 18446744073709551615 := by
    simp [Lit.wf, IntKind.min, IntKind.max, IntKind.signed, IntKind.bits] at h1
    omega
  have b2 : 0 ≤ n ∧ n ≤ 18446744073709551615 := by
    simp [Lit.wf, IntKind.min, IntKind.max, IntKind.signed, IntKind.bits] at h2
    omega
  clear h1 h2
  refine Run.calls4 (n := 113) Try.func8 rfl rfl rfl ?_
  by_cases hin : own < 1048576 ∧ n < 4294967296
  rotate_left
  · by_cases hown : own < 1048576
    · have hn : ¬ n < 4294967296 := fun h => hin ⟨hown, h⟩
      repeat' first
        | (apply RO.op; apply OP.callF; rfl; rfl; rfl; show Cl _ 24 _ _ _; exact new_calls hS; clear hS; rintro v w1 ⟨p, rfl, hS⟩)
        | (apply OP.callF; rfl; rfl; rfl; show Cl _ 24 _ _ _; exact new_calls hS; clear hS; rintro v w1 ⟨p, rfl, hS⟩; refine ⟨(by first | exact hS | exact hS.tail | exact hS.sublist (by repeat (first | exact List.Sublist.refl _ | refine .cons_cons _ ?_ | refine .cons _ ?_))), ?_⟩)
        | (apply RO.op; apply OP.callF; rfl; rfl; rfl; show Cl _ 12 _ _ _; exact kawake_calls hS; clear hS; rintro v w1 ⟨rfl, hS⟩)
        | (apply OP.callF; rfl; rfl; rfl; show Cl _ 12 _ _ _; exact kawake_calls hS; clear hS; rintro v w1 ⟨rfl, hS⟩; refine ⟨(by first | exact hS | exact hS.tail | exact hS.sublist (by repeat (first | exact List.Sublist.refl _ | refine .cons_cons _ ?_ | refine .cons _ ?_))), ?_⟩)
        | (refine RO.still (by apply Still.ptrNotNil; rfl; rfl; rfl; rfl) hS rfl ?_)
        | refine Run.seq ?_
        | refine Run.region ?_
        | (refine RO.split ?_ ?_ <;> intro hc <;> try (first | (exfalso; omega) | exact absurd rfl hc | exact Bool.noConfusion hc))
        | refine RO.nil ?_
        | refine RO.still (by exact Still.any) hS rfl ?_
        | (apply RO.op; apply OP.box hS; rfl; rfl; rfl; clear hS; intro b w1 hS)
        | (apply RO.op; apply OP.alloc hS; rfl; rfl; rfl; clear hS; intro b w1 hS)
        | (apply RO.op; apply OP.store hS; rfl; rfl; rfl; rfl; rfl; (focus ((repeat (first | apply Has.head | apply Take.head | apply Put.head | apply Has.tail | apply Take.tail | apply Put.tail)); done)); rfl; rfl; clear hS; intro w1 hS)
        | (apply RO.op; apply OP.buildSlice hS; rfl; rfl; (exact eqAuto); rfl; rfl; rfl; rfl; rfl; clear hS; intro b w1 hS)
        | (apply RO.op; apply OP.makeMap hS; rfl; clear hS; intro b w1 hS)
        | refine RO.yes rfl rfl ?_
        | refine RO.no rfl rfl rfl rfl ?_
        | refine RO.noUndef rfl rfl rfl ?_
        | refine RO.noNone rfl rfl rfl ?_
        | refine Run.cond_true rfl ?_
        | refine Run.cond_false rfl ?_
        | refine Run.skip ?_
        | refine Run.block ?_
        | refine Run.inBlock ?_
        | refine Run.exit rfl ?_
      refine Run.ret Try.func8 rfl (.tmp rfl .nil) ?_
      exact ⟨rfl, hS.picks (by focus ((repeat (first | apply Picks.all | apply Picks.nil | (refine Picks.cons (by repeat (first | apply Take.head | apply Take.tail)) ?_) | apply Picks.drop)); done))⟩
    · repeat' first
        | (apply RO.op; apply OP.callF; rfl; rfl; rfl; show Cl _ 24 _ _ _; exact new_calls hS; clear hS; rintro v w1 ⟨p, rfl, hS⟩)
        | (apply OP.callF; rfl; rfl; rfl; show Cl _ 24 _ _ _; exact new_calls hS; clear hS; rintro v w1 ⟨p, rfl, hS⟩; refine ⟨(by first | exact hS | exact hS.tail | exact hS.sublist (by repeat (first | exact List.Sublist.refl _ | refine .cons_cons _ ?_ | refine .cons _ ?_))), ?_⟩)
        | (apply RO.op; apply OP.callF; rfl; rfl; rfl; show Cl _ 12 _ _ _; exact kawake_calls hS; clear hS; rintro v w1 ⟨rfl, hS⟩)
        | (apply OP.callF; rfl; rfl; rfl; show Cl _ 12 _ _ _; exact kawake_calls hS; clear hS; rintro v w1 ⟨rfl, hS⟩; refine ⟨(by first | exact hS | exact hS.tail | exact hS.sublist (by repeat (first | exact List.Sublist.refl _ | refine .cons_cons _ ?_ | refine .cons _ ?_))), ?_⟩)
        | (refine RO.still (by apply Still.ptrNotNil; rfl; rfl; rfl; rfl) hS rfl ?_)
        | refine Run.seq ?_
        | refine Run.region ?_
        | (refine RO.split ?_ ?_ <;> intro hc <;> try (first | (exfalso; omega) | exact absurd rfl hc | exact Bool.noConfusion hc))
        | refine RO.nil ?_
        | refine RO.still (by exact Still.any) hS rfl ?_
        | (apply RO.op; apply OP.box hS; rfl; rfl; rfl; clear hS; intro b w1 hS)
        | (apply RO.op; apply OP.alloc hS; rfl; rfl; rfl; clear hS; intro b w1 hS)
        | (apply RO.op; apply OP.store hS; rfl; rfl; rfl; rfl; rfl; (focus ((repeat (first | apply Has.head | apply Take.head | apply Put.head | apply Has.tail | apply Take.tail | apply Put.tail)); done)); rfl; rfl; clear hS; intro w1 hS)
        | (apply RO.op; apply OP.buildSlice hS; rfl; rfl; (exact eqAuto); rfl; rfl; rfl; rfl; rfl; clear hS; intro b w1 hS)
        | (apply RO.op; apply OP.makeMap hS; rfl; clear hS; intro b w1 hS)
        | refine RO.yes rfl rfl ?_
        | refine RO.no rfl rfl rfl rfl ?_
        | refine RO.noUndef rfl rfl rfl ?_
        | refine RO.noNone rfl rfl rfl ?_
        | refine Run.cond_true rfl ?_
        | refine Run.cond_false rfl ?_
        | refine Run.skip ?_
        | refine Run.block ?_
        | refine Run.inBlock ?_
        | refine Run.exit rfl ?_
      refine Run.ret Try.func8 rfl (.tmp rfl .nil) ?_
      exact ⟨rfl, hS.picks (by focus ((repeat (first | apply Picks.all | apply Picks.nil | (refine Picks.cons (by repeat (first | apply Take.head | apply Take.tail)) ?_) | apply Picks.drop)); done))⟩
  obtain ⟨ho, hn⟩ := hin
  obtain ⟨m, hm⟩ : ∃ m, 4294967296 + own = m := ⟨_, rfl⟩
  have hw : IntKind.u64.wrap (4294967296 + own) = m := by rw [← hm]; exact wrap_u64 (by omega) (by omega)
  have hnm : n < m := by omega
  have hc := sh_can hnm hn (by omega)
  have e4 := sh_cl n m
  have hh0 : ∀ x, (fun _ : Int => false) x = true → has (sh4 n m) x = true := by simp
  have hz1 : has (sh4 n m) 1 = true := sh_has (by omega)
  have hz3 : has (sh4 n m) 3 = true := sh_has (by omega)
  have hh3 := ins_has hh0 hz3
  have hh1 := ins_has hh0 hz1
  have hh31 := ins_has hh3 hz1
  cases hears <;> cases hs
  · have hhk := hh0
    have hhb := hh0
    have hck : can (sh4 n m) (fun _ : Int => false) 1 = false ∧ can (sh4 n m) (fun _ : Int => false) 2 = true ∧ can (sh4 n m) (fun _ : Int => false) 3 = false ∧ can (sh4 n m) (fun _ : Int => false) 4 = false := hc (fun _ : Int => false)
    repeat' first
      | (apply RO.op; apply OP.callF; rfl; rfl; rfl; show Cl _ 24 _ _ _; exact new_calls hS; clear hS; rintro v w1 ⟨p, rfl, hS⟩; replace hS : St we ρ (Arena p 20 [Nd.z] :: σ) w1 := hS)
      | (apply OP.callF; rfl; rfl; rfl; show Cl _ 24 _ _ _; exact new_calls hS; clear hS; rintro v w1 ⟨p, rfl, hS⟩; replace hS : St we ρ (Arena p 20 [Nd.z] :: σ) w1 := hS; refine ⟨(by first | exact hS | exact hS.tail | exact hS.sublist (by repeat (first | exact List.Sublist.refl _ | refine .cons_cons _ ?_ | refine .cons _ ?_))), ?_⟩)
      | (apply RO.op; apply OP.callF; rfl; rfl; rfl; show Cl _ 25 _ _ _; (first | (apply mk_is (shm1 n); exact hS) | (apply mk_is (shm2 hnm); exact hS) | (apply mk_is (shm3 n m); exact hS)); clear hS; rintro v w1 ⟨rfl, hS⟩)
      | (apply RO.op; apply OP.callF; rfl; rfl; rfl; show Cl _ 26 _ _ _; exact share_is (shs hnm) hS; clear hS; rintro v w1 ⟨rfl, hS⟩)
      | (apply OP.callF; rfl; rfl; rfl; show Cl _ 26 _ _ _; exact share_is (shs hnm) hS; clear hS; rintro v w1 ⟨rfl, hS⟩; refine ⟨(by first | exact hS | exact hS.tail | exact hS.sublist (by repeat (first | exact List.Sublist.refl _ | refine .cons_cons _ ?_ | refine .cons _ ?_))), ?_⟩)
      | (apply RO.op; apply OP.callF; rfl; rfl; rfl; show Cl _ 19 _ _ _; exact knew_calls hS; clear hS; rintro v w1 ⟨kb, rfl, hS⟩)
      | (apply OP.callF; rfl; rfl; rfl; show Cl _ 19 _ _ _; exact knew_calls hS; clear hS; rintro v w1 ⟨kb, rfl, hS⟩; refine ⟨(by first | exact hS | exact hS.tail | exact hS.sublist (by repeat (first | exact List.Sublist.refl _ | refine .cons_cons _ ?_ | refine .cons _ ?_))), ?_⟩)
      | (refine RO.still (by apply Still.add; rfl; rfl; exact hw) hS rfl ?_)
      | (apply RO.op; apply OP.callF; rfl; rfl; rfl; show Cl _ 20 [_, .int .i64 3] _ _; exact learn_yes (x := 3) hh0 (Nat.zero_le _) hz3 (hS.take2 .head .head); clear hS; rintro v w1 ⟨rfl, hS⟩; rw [e4] at hS)
      | (apply RO.op; apply OP.callF; rfl; rfl; rfl; show Cl _ 20 [_, .int .i64 1] _ _; exact learn_yes (x := 1) hhb (by decide) hz1 (hS.take2 .head .head); clear hS; rintro v w1 ⟨rfl, hS⟩; rw [e4] at hS)
      | (apply RO.op; apply OP.callF; rfl; rfl; rfl; show Cl _ 15 [_, .int .i64 1] _ _; exact kcan_is hhk hck.1 (hS.take2 .head .head); clear hS; rintro v w1 ⟨rfl, hS⟩)
      | (apply RO.op; apply OP.callF; rfl; rfl; rfl; show Cl _ 15 [_, .int .i64 2] _ _; exact kcan_is hhk hck.2.1 (hS.take2 .head .head); clear hS; rintro v w1 ⟨rfl, hS⟩)
      | (apply RO.op; apply OP.callF; rfl; rfl; rfl; show Cl _ 15 [_, .int .i64 3] _ _; exact kcan_is hhk hck.2.2.1 (hS.take2 .head .head); clear hS; rintro v w1 ⟨rfl, hS⟩)
      | (apply RO.op; apply OP.callF; rfl; rfl; rfl; show Cl _ 15 [_, .int .i64 4] _ _; exact kcan_is hhk hck.2.2.2 (hS.take2 .head .head); clear hS; rintro v w1 ⟨rfl, hS⟩)
      | (apply RO.op; apply OP.callF; rfl; rfl; rfl; show Cl _ 12 _ _ _; exact kawake_calls hS; clear hS; rintro v w1 ⟨rfl, hS⟩)
      | (apply OP.callF; rfl; rfl; rfl; show Cl _ 12 _ _ _; exact kawake_calls hS; clear hS; rintro v w1 ⟨rfl, hS⟩; refine ⟨(by first | exact hS | exact hS.tail | exact hS.sublist (by repeat (first | exact List.Sublist.refl _ | refine .cons_cons _ ?_ | refine .cons _ ?_))), ?_⟩)
      | refine Run.seq ?_
      | refine Run.region ?_
      | (refine RO.split ?_ ?_ <;> intro hc <;> try (first | (exfalso; omega) | exact absurd rfl hc | exact Bool.noConfusion hc))
      | refine RO.nil ?_
      | refine RO.still (by exact Still.any) hS rfl ?_
      | (apply RO.op; apply OP.box hS; rfl; rfl; rfl; clear hS; intro b w1 hS)
      | (apply RO.op; apply OP.alloc hS; rfl; rfl; rfl; clear hS; intro b w1 hS)
      | (apply RO.op; apply OP.store hS; rfl; rfl; rfl; rfl; rfl; (focus ((repeat (first | apply Has.head | apply Take.head | apply Put.head | apply Has.tail | apply Take.tail | apply Put.tail)); done)); rfl; rfl; clear hS; intro w1 hS)
      | (apply RO.op; apply OP.buildSlice hS; rfl; rfl; (exact eqAuto); rfl; rfl; rfl; rfl; rfl; clear hS; intro b w1 hS)
      | (apply RO.op; apply OP.makeMap hS; rfl; clear hS; intro b w1 hS)
      | refine RO.yes rfl rfl ?_
      | refine RO.no rfl rfl rfl rfl ?_
      | refine RO.noUndef rfl rfl rfl ?_
      | refine RO.noNone rfl rfl rfl ?_
      | refine Run.cond_true rfl ?_
      | refine Run.cond_false rfl ?_
      | refine Run.skip ?_
      | refine Run.block ?_
      | refine Run.inBlock ?_
      | refine Run.exit rfl ?_
    refine Run.ret Try.func8 rfl (.tmp rfl .nil) ?_
    exact ⟨rfl, hS.picks (by focus ((repeat (first | apply Picks.all | apply Picks.nil | (refine Picks.cons (by repeat (first | apply Take.head | apply Take.tail)) ?_) | apply Picks.drop)); done))⟩
  · have hhk := hh1
    have hhb := hh0
    have hck : can (sh4 n m) (ins (fun _ : Int => false) 1) 1 = true ∧ can (sh4 n m) (ins (fun _ : Int => false) 1) 2 = true ∧ can (sh4 n m) (ins (fun _ : Int => false) 1) 3 = true ∧ can (sh4 n m) (ins (fun _ : Int => false) 1) 4 = true := hc (ins (fun _ : Int => false) 1)
    repeat' first
      | (apply RO.op; apply OP.callF; rfl; rfl; rfl; show Cl _ 24 _ _ _; exact new_calls hS; clear hS; rintro v w1 ⟨p, rfl, hS⟩; replace hS : St we ρ (Arena p 20 [Nd.z] :: σ) w1 := hS)
      | (apply OP.callF; rfl; rfl; rfl; show Cl _ 24 _ _ _; exact new_calls hS; clear hS; rintro v w1 ⟨p, rfl, hS⟩; replace hS : St we ρ (Arena p 20 [Nd.z] :: σ) w1 := hS; refine ⟨(by first | exact hS | exact hS.tail | exact hS.sublist (by repeat (first | exact List.Sublist.refl _ | refine .cons_cons _ ?_ | refine .cons _ ?_))), ?_⟩)
      | (apply RO.op; apply OP.callF; rfl; rfl; rfl; show Cl _ 25 _ _ _; (first | (apply mk_is (shm1 n); exact hS) | (apply mk_is (shm2 hnm); exact hS) | (apply mk_is (shm3 n m); exact hS)); clear hS; rintro v w1 ⟨rfl, hS⟩)
      | (apply RO.op; apply OP.callF; rfl; rfl; rfl; show Cl _ 26 _ _ _; exact share_is (shs hnm) hS; clear hS; rintro v w1 ⟨rfl, hS⟩)
      | (apply OP.callF; rfl; rfl; rfl; show Cl _ 26 _ _ _; exact share_is (shs hnm) hS; clear hS; rintro v w1 ⟨rfl, hS⟩; refine ⟨(by first | exact hS | exact hS.tail | exact hS.sublist (by repeat (first | exact List.Sublist.refl _ | refine .cons_cons _ ?_ | refine .cons _ ?_))), ?_⟩)
      | (apply RO.op; apply OP.callF; rfl; rfl; rfl; show Cl _ 19 _ _ _; exact knew_calls hS; clear hS; rintro v w1 ⟨kb, rfl, hS⟩)
      | (apply OP.callF; rfl; rfl; rfl; show Cl _ 19 _ _ _; exact knew_calls hS; clear hS; rintro v w1 ⟨kb, rfl, hS⟩; refine ⟨(by first | exact hS | exact hS.tail | exact hS.sublist (by repeat (first | exact List.Sublist.refl _ | refine .cons_cons _ ?_ | refine .cons _ ?_))), ?_⟩)
      | (refine RO.still (by apply Still.add; rfl; rfl; exact hw) hS rfl ?_)
      | (apply RO.op; apply OP.callF; rfl; rfl; rfl; show Cl _ 20 [_, .int .i64 3] _ _; exact learn_yes (x := 3) hh0 (Nat.zero_le _) hz3 (hS.take2 .head .head); clear hS; rintro v w1 ⟨rfl, hS⟩; rw [e4] at hS)
      | (apply RO.op; apply OP.callF; rfl; rfl; rfl; show Cl _ 20 [_, .int .i64 1] _ _; exact learn_yes (x := 1) hhb (by decide) hz1 (hS.take2 .head .head); clear hS; rintro v w1 ⟨rfl, hS⟩; rw [e4] at hS)
      | (apply RO.op; apply OP.callF; rfl; rfl; rfl; show Cl _ 15 [_, .int .i64 1] _ _; exact kcan_is hhk hck.1 (hS.take2 .head .head); clear hS; rintro v w1 ⟨rfl, hS⟩)
      | (apply RO.op; apply OP.callF; rfl; rfl; rfl; show Cl _ 15 [_, .int .i64 2] _ _; exact kcan_is hhk hck.2.1 (hS.take2 .head .head); clear hS; rintro v w1 ⟨rfl, hS⟩)
      | (apply RO.op; apply OP.callF; rfl; rfl; rfl; show Cl _ 15 [_, .int .i64 3] _ _; exact kcan_is hhk hck.2.2.1 (hS.take2 .head .head); clear hS; rintro v w1 ⟨rfl, hS⟩)
      | (apply RO.op; apply OP.callF; rfl; rfl; rfl; show Cl _ 15 [_, .int .i64 4] _ _; exact kcan_is hhk hck.2.2.2 (hS.take2 .head .head); clear hS; rintro v w1 ⟨rfl, hS⟩)
      | (apply RO.op; apply OP.callF; rfl; rfl; rfl; show Cl _ 12 _ _ _; exact kawake_calls hS; clear hS; rintro v w1 ⟨rfl, hS⟩)
      | (apply OP.callF; rfl; rfl; rfl; show Cl _ 12 _ _ _; exact kawake_calls hS; clear hS; rintro v w1 ⟨rfl, hS⟩; refine ⟨(by first | exact hS | exact hS.tail | exact hS.sublist (by repeat (first | exact List.Sublist.refl _ | refine .cons_cons _ ?_ | refine .cons _ ?_))), ?_⟩)
      | refine Run.seq ?_
      | refine Run.region ?_
      | (refine RO.split ?_ ?_ <;> intro hc <;> try (first | (exfalso; omega) | exact absurd rfl hc | exact Bool.noConfusion hc))
      | refine RO.nil ?_
      | refine RO.still (by exact Still.any) hS rfl ?_
      | (apply RO.op; apply OP.box hS; rfl; rfl; rfl; clear hS; intro b w1 hS)
      | (apply RO.op; apply OP.alloc hS; rfl; rfl; rfl; clear hS; intro b w1 hS)
      | (apply RO.op; apply OP.store hS; rfl; rfl; rfl; rfl; rfl; (focus ((repeat (first | apply Has.head | apply Take.head | apply Put.head | apply Has.tail | apply Take.tail | apply Put.tail)); done)); rfl; rfl; clear hS; intro w1 hS)
      | (apply RO.op; apply OP.buildSlice hS; rfl; rfl; (exact eqAuto); rfl; rfl; rfl; rfl; rfl; clear hS; intro b w1 hS)
      | (apply RO.op; apply OP.makeMap hS; rfl; clear hS; intro b w1 hS)
      | refine RO.yes rfl rfl ?_
      | refine RO.no rfl rfl rfl rfl ?_
      | refine RO.noUndef rfl rfl rfl ?_
      | refine RO.noNone rfl rfl rfl ?_
      | refine Run.cond_true rfl ?_
      | refine Run.cond_false rfl ?_
      | refine Run.skip ?_
      | refine Run.block ?_
      | refine Run.inBlock ?_
      | refine Run.exit rfl ?_
    refine Run.ret Try.func8 rfl (.tmp rfl .nil) ?_
    exact ⟨rfl, hS.picks (by focus ((repeat (first | apply Picks.all | apply Picks.nil | (refine Picks.cons (by repeat (first | apply Take.head | apply Take.tail)) ?_) | apply Picks.drop)); done))⟩
  · have hhk := hh3
    have hhb := hh3
    have hck : can (sh4 n m) (ins (fun _ : Int => false) 3) 1 = false ∧ can (sh4 n m) (ins (fun _ : Int => false) 3) 2 = true ∧ can (sh4 n m) (ins (fun _ : Int => false) 3) 3 = true ∧ can (sh4 n m) (ins (fun _ : Int => false) 3) 4 = true := hc (ins (fun _ : Int => false) 3)
    repeat' first
      | (apply RO.op; apply OP.callF; rfl; rfl; rfl; show Cl _ 24 _ _ _; exact new_calls hS; clear hS; rintro v w1 ⟨p, rfl, hS⟩; replace hS : St we ρ (Arena p 20 [Nd.z] :: σ) w1 := hS)
      | (apply OP.callF; rfl; rfl; rfl; show Cl _ 24 _ _ _; exact new_calls hS; clear hS; rintro v w1 ⟨p, rfl, hS⟩; replace hS : St we ρ (Arena p 20 [Nd.z] :: σ) w1 := hS; refine ⟨(by first | exact hS | exact hS.tail | exact hS.sublist (by repeat (first | exact List.Sublist.refl _ | refine .cons_cons _ ?_ | refine .cons _ ?_))), ?_⟩)
      | (apply RO.op; apply OP.callF; rfl; rfl; rfl; show Cl _ 25 _ _ _; (first | (apply mk_is (shm1 n); exact hS) | (apply mk_is (shm2 hnm); exact hS) | (apply mk_is (shm3 n m); exact hS)); clear hS; rintro v w1 ⟨rfl, hS⟩)
      | (apply RO.op; apply OP.callF; rfl; rfl; rfl; show Cl _ 26 _ _ _; exact share_is (shs hnm) hS; clear hS; rintro v w1 ⟨rfl, hS⟩)
      | (apply OP.callF; rfl; rfl; rfl; show Cl _ 26 _ _ _; exact share_is (shs hnm) hS; clear hS; rintro v w1 ⟨rfl, hS⟩; refine ⟨(by first | exact hS | exact hS.tail | exact hS.sublist (by repeat (first | exact List.Sublist.refl _ | refine .cons_cons _ ?_ | refine .cons _ ?_))), ?_⟩)
      | (apply RO.op; apply OP.callF; rfl; rfl; rfl; show Cl _ 19 _ _ _; exact knew_calls hS; clear hS; rintro v w1 ⟨kb, rfl, hS⟩)
      | (apply OP.callF; rfl; rfl; rfl; show Cl _ 19 _ _ _; exact knew_calls hS; clear hS; rintro v w1 ⟨kb, rfl, hS⟩; refine ⟨(by first | exact hS | exact hS.tail | exact hS.sublist (by repeat (first | exact List.Sublist.refl _ | refine .cons_cons _ ?_ | refine .cons _ ?_))), ?_⟩)
      | (refine RO.still (by apply Still.add; rfl; rfl; exact hw) hS rfl ?_)
      | (apply RO.op; apply OP.callF; rfl; rfl; rfl; show Cl _ 20 [_, .int .i64 3] _ _; exact learn_yes (x := 3) hh0 (Nat.zero_le _) hz3 (hS.take2 .head .head); clear hS; rintro v w1 ⟨rfl, hS⟩; rw [e4] at hS)
      | (apply RO.op; apply OP.callF; rfl; rfl; rfl; show Cl _ 20 [_, .int .i64 1] _ _; exact learn_yes (x := 1) hhb (by decide) hz1 (hS.take2 .head .head); clear hS; rintro v w1 ⟨rfl, hS⟩; rw [e4] at hS)
      | (apply RO.op; apply OP.callF; rfl; rfl; rfl; show Cl _ 15 [_, .int .i64 1] _ _; exact kcan_is hhk hck.1 (hS.take2 .head .head); clear hS; rintro v w1 ⟨rfl, hS⟩)
      | (apply RO.op; apply OP.callF; rfl; rfl; rfl; show Cl _ 15 [_, .int .i64 2] _ _; exact kcan_is hhk hck.2.1 (hS.take2 .head .head); clear hS; rintro v w1 ⟨rfl, hS⟩)
      | (apply RO.op; apply OP.callF; rfl; rfl; rfl; show Cl _ 15 [_, .int .i64 3] _ _; exact kcan_is hhk hck.2.2.1 (hS.take2 .head .head); clear hS; rintro v w1 ⟨rfl, hS⟩)
      | (apply RO.op; apply OP.callF; rfl; rfl; rfl; show Cl _ 15 [_, .int .i64 4] _ _; exact kcan_is hhk hck.2.2.2 (hS.take2 .head .head); clear hS; rintro v w1 ⟨rfl, hS⟩)
      | (apply RO.op; apply OP.callF; rfl; rfl; rfl; show Cl _ 12 _ _ _; exact kawake_calls hS; clear hS; rintro v w1 ⟨rfl, hS⟩)
      | (apply OP.callF; rfl; rfl; rfl; show Cl _ 12 _ _ _; exact kawake_calls hS; clear hS; rintro v w1 ⟨rfl, hS⟩; refine ⟨(by first | exact hS | exact hS.tail | exact hS.sublist (by repeat (first | exact List.Sublist.refl _ | refine .cons_cons _ ?_ | refine .cons _ ?_))), ?_⟩)
      | refine Run.seq ?_
      | refine Run.region ?_
      | (refine RO.split ?_ ?_ <;> intro hc <;> try (first | (exfalso; omega) | exact absurd rfl hc | exact Bool.noConfusion hc))
      | refine RO.nil ?_
      | refine RO.still (by exact Still.any) hS rfl ?_
      | (apply RO.op; apply OP.box hS; rfl; rfl; rfl; clear hS; intro b w1 hS)
      | (apply RO.op; apply OP.alloc hS; rfl; rfl; rfl; clear hS; intro b w1 hS)
      | (apply RO.op; apply OP.store hS; rfl; rfl; rfl; rfl; rfl; (focus ((repeat (first | apply Has.head | apply Take.head | apply Put.head | apply Has.tail | apply Take.tail | apply Put.tail)); done)); rfl; rfl; clear hS; intro w1 hS)
      | (apply RO.op; apply OP.buildSlice hS; rfl; rfl; (exact eqAuto); rfl; rfl; rfl; rfl; rfl; clear hS; intro b w1 hS)
      | (apply RO.op; apply OP.makeMap hS; rfl; clear hS; intro b w1 hS)
      | refine RO.yes rfl rfl ?_
      | refine RO.no rfl rfl rfl rfl ?_
      | refine RO.noUndef rfl rfl rfl ?_
      | refine RO.noNone rfl rfl rfl ?_
      | refine Run.cond_true rfl ?_
      | refine Run.cond_false rfl ?_
      | refine Run.skip ?_
      | refine Run.block ?_
      | refine Run.inBlock ?_
      | refine Run.exit rfl ?_
    refine Run.ret Try.func8 rfl (.tmp rfl .nil) ?_
    exact ⟨rfl, hS.picks (by focus ((repeat (first | apply Picks.all | apply Picks.nil | (refine Picks.cons (by repeat (first | apply Take.head | apply Take.tail)) ?_) | apply Picks.drop)); done))⟩
  · have hhk := hh31
    have hhb := hh3
    have hck : can (sh4 n m) (ins (ins (fun _ : Int => false) 3) 1) 1 = true ∧ can (sh4 n m) (ins (ins (fun _ : Int => false) 3) 1) 2 = true ∧ can (sh4 n m) (ins (ins (fun _ : Int => false) 3) 1) 3 = true ∧ can (sh4 n m) (ins (ins (fun _ : Int => false) 3) 1) 4 = true := hc (ins (ins (fun _ : Int => false) 3) 1)
    repeat' first
      | (apply RO.op; apply OP.callF; rfl; rfl; rfl; show Cl _ 24 _ _ _; exact new_calls hS; clear hS; rintro v w1 ⟨p, rfl, hS⟩; replace hS : St we ρ (Arena p 20 [Nd.z] :: σ) w1 := hS)
      | (apply OP.callF; rfl; rfl; rfl; show Cl _ 24 _ _ _; exact new_calls hS; clear hS; rintro v w1 ⟨p, rfl, hS⟩; replace hS : St we ρ (Arena p 20 [Nd.z] :: σ) w1 := hS; refine ⟨(by first | exact hS | exact hS.tail | exact hS.sublist (by repeat (first | exact List.Sublist.refl _ | refine .cons_cons _ ?_ | refine .cons _ ?_))), ?_⟩)
      | (apply RO.op; apply OP.callF; rfl; rfl; rfl; show Cl _ 25 _ _ _; (first | (apply mk_is (shm1 n); exact hS) | (apply mk_is (shm2 hnm); exact hS) | (apply mk_is (shm3 n m); exact hS)); clear hS; rintro v w1 ⟨rfl, hS⟩)
      | (apply RO.op; apply OP.callF; rfl; rfl; rfl; show Cl _ 26 _ _ _; exact share_is (shs hnm) hS; clear hS; rintro v w1 ⟨rfl, hS⟩)
      | (apply OP.callF; rfl; rfl; rfl; show Cl _ 26 _ _ _; exact share_is (shs hnm) hS; clear hS; rintro v w1 ⟨rfl, hS⟩; refine ⟨(by first | exact hS | exact hS.tail | exact hS.sublist (by repeat (first | exact List.Sublist.refl _ | refine .cons_cons _ ?_ | refine .cons _ ?_))), ?_⟩)
      | (apply RO.op; apply OP.callF; rfl; rfl; rfl; show Cl _ 19 _ _ _; exact knew_calls hS; clear hS; rintro v w1 ⟨kb, rfl, hS⟩)
      | (apply OP.callF; rfl; rfl; rfl; show Cl _ 19 _ _ _; exact knew_calls hS; clear hS; rintro v w1 ⟨kb, rfl, hS⟩; refine ⟨(by first | exact hS | exact hS.tail | exact hS.sublist (by repeat (first | exact List.Sublist.refl _ | refine .cons_cons _ ?_ | refine .cons _ ?_))), ?_⟩)
      | (refine RO.still (by apply Still.add; rfl; rfl; exact hw) hS rfl ?_)
      | (apply RO.op; apply OP.callF; rfl; rfl; rfl; show Cl _ 20 [_, .int .i64 3] _ _; exact learn_yes (x := 3) hh0 (Nat.zero_le _) hz3 (hS.take2 .head .head); clear hS; rintro v w1 ⟨rfl, hS⟩; rw [e4] at hS)
      | (apply RO.op; apply OP.callF; rfl; rfl; rfl; show Cl _ 20 [_, .int .i64 1] _ _; exact learn_yes (x := 1) hhb (by decide) hz1 (hS.take2 .head .head); clear hS; rintro v w1 ⟨rfl, hS⟩; rw [e4] at hS)
      | (apply RO.op; apply OP.callF; rfl; rfl; rfl; show Cl _ 15 [_, .int .i64 1] _ _; exact kcan_is hhk hck.1 (hS.take2 .head .head); clear hS; rintro v w1 ⟨rfl, hS⟩)
      | (apply RO.op; apply OP.callF; rfl; rfl; rfl; show Cl _ 15 [_, .int .i64 2] _ _; exact kcan_is hhk hck.2.1 (hS.take2 .head .head); clear hS; rintro v w1 ⟨rfl, hS⟩)
      | (apply RO.op; apply OP.callF; rfl; rfl; rfl; show Cl _ 15 [_, .int .i64 3] _ _; exact kcan_is hhk hck.2.2.1 (hS.take2 .head .head); clear hS; rintro v w1 ⟨rfl, hS⟩)
      | (apply RO.op; apply OP.callF; rfl; rfl; rfl; show Cl _ 15 [_, .int .i64 4] _ _; exact kcan_is hhk hck.2.2.2 (hS.take2 .head .head); clear hS; rintro v w1 ⟨rfl, hS⟩)
      | (apply RO.op; apply OP.callF; rfl; rfl; rfl; show Cl _ 12 _ _ _; exact kawake_calls hS; clear hS; rintro v w1 ⟨rfl, hS⟩)
      | (apply OP.callF; rfl; rfl; rfl; show Cl _ 12 _ _ _; exact kawake_calls hS; clear hS; rintro v w1 ⟨rfl, hS⟩; refine ⟨(by first | exact hS | exact hS.tail | exact hS.sublist (by repeat (first | exact List.Sublist.refl _ | refine .cons_cons _ ?_ | refine .cons _ ?_))), ?_⟩)
      | refine Run.seq ?_
      | refine Run.region ?_
      | (refine RO.split ?_ ?_ <;> intro hc <;> try (first | (exfalso; omega) | exact absurd rfl hc | exact Bool.noConfusion hc))
      | refine RO.nil ?_
      | refine RO.still (by exact Still.any) hS rfl ?_
      | (apply RO.op; apply OP.box hS; rfl; rfl; rfl; clear hS; intro b w1 hS)
      | (apply RO.op; apply OP.alloc hS; rfl; rfl; rfl; clear hS; intro b w1 hS)
      | (apply RO.op; apply OP.store hS; rfl; rfl; rfl; rfl; rfl; (focus ((repeat (first | apply Has.head | apply Take.head | apply Put.head | apply Has.tail | apply Take.tail | apply Put.tail)); done)); rfl; rfl; clear hS; intro w1 hS)
      | (apply RO.op; apply OP.buildSlice hS; rfl; rfl; (exact eqAuto); rfl; rfl; rfl; rfl; rfl; clear hS; intro b w1 hS)
      | (apply RO.op; apply OP.makeMap hS; rfl; clear hS; intro b w1 hS)
      | refine RO.yes rfl rfl ?_
      | refine RO.no rfl rfl rfl rfl ?_
      | refine RO.noUndef rfl rfl rfl ?_
      | refine RO.noNone rfl rfl rfl ?_
      | refine Run.cond_true rfl ?_
      | refine Run.cond_false rfl ?_
      | refine Run.skip ?_
      | refine Run.block ?_
      | refine Run.inBlock ?_
      | refine Run.exit rfl ?_
    refine Run.ret Try.func8 rfl (.tmp rfl .nil) ?_
    exact ⟨rfl, hS.picks (by focus ((repeat (first | apply Picks.all | apply Picks.nil | (refine Picks.cons (by repeat (first | apply Take.head | apply Take.tail)) ?_) | apply Picks.drop)); done))⟩
end
end Go.Proofs.Ytjkfbimldgegmaa
