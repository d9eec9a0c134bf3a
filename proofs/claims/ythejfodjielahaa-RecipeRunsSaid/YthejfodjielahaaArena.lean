/-
  An arena in memory: its struct, its row of nodes, its map; and the functions that only look at it.
-/
import Derived.Test.YthejfodjielahaaProg
import Derived.Test.YthejfodjielahaaMem
import Derived.Test.YthejfodjielahaaTermMk
import Derived.Test.YthejfodjielahaaFuncs
namespace Go.Proofs.Ythejfodjielahaa
set_option maxRecDepth 8000
set_option linter.unusedSimpArgs false
set_option linter.unusedVariables false
open Go Go.RowKit

def ndL (n : Nd) : List Value := [.int .i64 n.k, .int .u64 n.n, .int .i64 n.a, .int .i64 n.b, .int .i64 n.c]
def flat (L : List Nd) : List Value := L.flatMap ndL
def entries (L : List Nd) : Array MapEntry := (L.zipIdx.map fun (n, i) => ⟨.agg (ndL n).toArray, .int .i64 i, i⟩).toArray

theorem flat_length (L : List Nd) : (flat L).length = 5 * L.length := by
  induction L with
  | nil => rfl
  | cons n L ih => simp only [flat, List.flatMap_cons, List.length_append, List.length_cons] at *; simp [ndL] at *; omega
theorem flat_drop : ∀ (L : List Nd) (i : Nat), (flat L).drop (i * 5) = flat (L.drop i)
  | L, 0 => by simp
  | [], i + 1 => by simp [flat]
  | n :: L, i + 1 => by
    have := flat_drop L i
    simp only [List.drop_succ_cons]
    rw [← this]
    simp only [flat, List.flatMap_cons]
    rw [show (i + 1) * 5 = (ndL n).length + i * 5 by simp [ndL]; omega, List.drop_append]
    simp
theorem flat_take {L : List Nd} {spare : List Value} {x : Int} (h : has L x = true) : ((flat L ++ spare).drop (x.toNat * 5)).take 5 = ndL (nd L x) := by
  obtain ⟨i, rfl, hi⟩ := has_nat h
  simp only [Int.toNat_natCast]
  rw [List.drop_append_of_le_length (by rw [flat_length]; omega), flat_drop, List.drop_eq_getElem_cons hi, nd_nat hi]
  simp only [flat, List.flatMap_cons, List.append_assoc]
  simp [ndL]
theorem flat_get {L : List Nd} {spare : List Value} {x : Int} (h : has L x = true) (j : Nat) (hj : j < 5) : (flat L ++ spare)[x.toNat * 5 + j]? = (ndL (nd L x))[j]? := by
  have h1 := flat_take (spare := spare) h
  have h2 : (((flat L ++ spare).drop (x.toNat * 5)).take 5)[j]? = (ndL (nd L x))[j]? := by rw [h1]
  rw [List.getElem?_take, if_pos hj, List.getElem?_drop] at h2
  exact h2
section
variable {L : List Nd} {spare : List Value} {x : Int}
theorem flat_get0 (h : has L x = true) : (flat L ++ spare)[x.toNat * 5]? = some (.int .i64 (nd L x).k) := flat_get h 0 (by omega)
theorem flat_get1 (h : has L x = true) : (flat L ++ spare)[x.toNat * 5 + 1]? = some (.int .u64 (nd L x).n) := flat_get h 1 (by omega)
theorem flat_get2 (h : has L x = true) : (flat L ++ spare)[x.toNat * 5 + 2]? = some (.int .i64 (nd L x).a) := flat_get h 2 (by omega)
theorem flat_get3 (h : has L x = true) : (flat L ++ spare)[x.toNat * 5 + 3]? = some (.int .i64 (nd L x).b) := flat_get h 3 (by omega)
theorem flat_get4 (h : has L x = true) : (flat L ++ spare)[x.toNat * 5 + 4]? = some (.int .i64 (nd L x).c) := flat_get h 4 (by omega)
end

/-- The parts of an arena. -/
abbrev ArenaAt (p : Nat) (lim : Nat) (L : List Nd) (r m cap : Nat) (spare : List Value) (F : List HP) : List HP :=
  Row p [.int .i64 lim, .slice (some ⟨r, 0, none⟩) L.length cap, .map (some m)] 74 ::
  Row r (flat L ++ spare) 57 :: Blk m (.map (entries L) L.length) :: F

def Arena (p : Nat) (lim : Nat) (L : List Nd) : HP :=
  HP.ex fun x : Nat × Nat × Nat × List Value => HP.pure (Good lim L ∧ L.length ≤ x.2.2.1 ∧ x.2.2.1 ≤ maxLen ∧ x.2.2.2.length = 5 * (x.2.2.1 - L.length))
    (HP.star (Row p [.int .i64 lim, .slice (some ⟨x.1, 0, none⟩) L.length x.2.2.1, .map (some x.2.1)] 74)
      (HP.star (Row x.1 (flat L ++ x.2.2.2) 57) (Blk x.2.1 (.map (entries L) L.length))))

section
variable {we w : World} {ρ : List (Nat × Obj)} {F : List HP} {p lim : Nat} {L : List Nd}
theorem arena_open (h : St we ρ (Arena p lim L :: F) w) : ∃ r m cap spare, Good lim L ∧ L.length ≤ cap ∧ cap ≤ maxLen ∧ spare.length = 5 * (cap - L.length) ∧ St we ρ (ArenaAt p lim L r m cap spare F) w := by
  obtain ⟨⟨r, m, cap, spare⟩, h⟩ := St.ex h
  obtain ⟨⟨h1, h2, h3, h4⟩, h⟩ := St.pure h
  have h := St.star.1 h
  exact ⟨r, m, cap, spare, h1, h2, h3, h4, by
    have h5 := (h.take (.tail .head))
    have h6 := St.star.1 h5
    exact ((h6.take (.tail (.tail .head))))⟩
theorem arena_good (h : St we ρ (Arena p lim L :: F) w) : Good lim L ∧ St we ρ (Arena p lim L :: F) w := by
  obtain ⟨_, h1⟩ := St.ex h
  exact ⟨(St.pure h1).1.1, h⟩
theorem arena_shut {r m cap : Nat} {spare : List Value} (h1 : Good lim L) (h2 : L.length ≤ cap) (h3 : cap ≤ maxLen) (h4 : spare.length = 5 * (cap - L.length)) (h : St we ρ (ArenaAt p lim L r m cap spare F) w) : St we ρ (Arena p lim L :: F) w := by
  refine St.ex_mk (r, m, cap, spare) (St.pure_mk ⟨h1, h2, h3, h4⟩ (St.star.2 ?_))
  have h5 := h.take (.tail .head)
  have h6 := h5.take (.tail (.tail .head))
  have h7 : St we ρ (HP.star (Row r (flat L ++ spare) 57) (Blk m (.map (entries L) L.length)) :: Row p [.int .i64 lim, .slice (some ⟨r, 0, none⟩) L.length cap, .map (some m)] 74 :: F) w := by
    refine St.star.2 ?_
    exact (h6.take (.tail .head))
  exact h7.take (.tail .head)
end

attribute [irreducible] Arena

/-- Reads through a captured pointer: 'ref < 0 || ref >= len(a.l)'. -/
theorem hasClosure {we w : World} {ρ : List (Nat × Obj)} {F : List HP} {p lim q : Nat} {L : List Nd} {x : Int}
    (hS : St we ρ (Arena p lim L :: Row q [.pointer (some ⟨p, 0, none⟩)] 26 :: F) w) :
    Cl Try.prog 49 [.int .i64 x, .pointer (some ⟨q, 0, none⟩)] w fun v w' => v = .bool (!has L x) ∧ St we ρ (Arena p lim L :: Row q [.pointer (some ⟨p, 0, none⟩)] 26 :: F) w' := by
  obtain ⟨r, m, cap, spare, g1, g2, g3, g4, hS⟩ := arena_open hS
  refine Run.calls2 (n := 15) Try.func49 rfl rfl rfl ?_
  repeat' first
    | refine Run.seq ?_
    | refine Run.region ?_
    | (refine RO.split ?_ ?_ <;> intro hc <;> try (first | (exfalso; omega) | exact absurd rfl hc | exact Bool.noConfusion hc))
    | refine RO.nil ?_
    | refine RO.still (by exact Still.any) hS rfl ?_
    | (apply RO.op; apply OP.box hS; rfl; rfl; rfl; clear hS; intro b w1 hS)
    | (apply RO.op; apply OP.alloc hS; rfl; rfl; rfl; clear hS; intro b w1 hS)
    | (apply RO.op; apply OP.store hS; rfl; rfl; rfl; rfl; rfl; (focus ((repeat (first | apply Has.head | apply Take.head | apply Put.head | apply Has.tail | apply Take.tail | apply Put.tail)); done)); rfl; rfl; clear hS; intro w1 hS)
    | (apply RO.op; apply OP.buildSlice hS; rfl; rfl; (exact eqAuto); rfl; rfl; rfl; rfl; rfl; clear hS; intro b w1 hS)
    | (apply RO.op; apply OP.makeMap hS; rfl; clear hS; intro b w1 hS)
    | refine RO.yes rfl rfl ?_
    | refine RO.no rfl rfl rfl rfl ?_
    | refine RO.noUndef rfl rfl rfl ?_
    | refine RO.noNone rfl rfl rfl ?_
    | refine Run.cond_true rfl ?_
    | refine Run.cond_false rfl ?_
    | refine Run.skip ?_
    | refine Run.block ?_
    | refine Run.inBlock ?_
    | refine Run.exit rfl ?_
  all_goals
    refine Run.ret Try.func49 rfl (.tmp rfl .nil) ?_
    refine ⟨?_, arena_shut g1 g2 g3 g4 hS⟩
    simp only [tup, has]
    congr 1
    simp
    omega

theorem ints_of {xs : List Int} : ∀ (i : Nat) (x : Int), xs[i]? = some x → (xs.map (Value.int .i64))[0 + i]? = some (.int .i64 x) := by
  intro i x h
  simp [h]
theorem ints1 {a : Int} : ∀ (i : Nat) (x : Int), [a][i]? = some x → [Value.int .i64 a][0 + i]? = some (.int .i64 x) := ints_of (xs := [a])
theorem ints2 {a b : Int} : ∀ (i : Nat) (x : Int), [a, b][i]? = some x → [Value.int .i64 a, Value.int .i64 b][0 + i]? = some (.int .i64 x) := ints_of (xs := [a, b])
theorem len1 {a : Int} : [a].length ≤ maxLen := by simp [maxLen]
theorem len2 {a b : Int} : [a, b].length ≤ maxLen := by simp [maxLen]

/-- (*Arena).Has. -/
theorem has_calls {we w : World} {ρ : List (Nat × Obj)} {F : List HP} {p lim : Nat} {L : List Nd} {xs : List Int} {b off cap : Nat} {l : List Value} {el : TypeId} {fr : Nat × Nat}
    (hS : St we ρ (Arena p lim L :: F) w) (hr : Rd ρ F b (.cells l.toArray el fr)) (hl : ∀ (i : Nat) (x : Int), xs[i]? = some x → l[off + i]? = some (.int .i64 x)) (hm : xs.length ≤ maxLen) :
    Cl Try.prog 30 [.pointer (some ⟨p, 0, none⟩), .slice (some ⟨b, off, none⟩) xs.length cap] w fun v w' => v = .bool (xs.all (has L)) ∧ St we ρ (Arena p lim L :: F) w' := by
  refine Run.calls2 (n := 9) Try.func30 rfl rfl rfl ?_
  have hall : (!xs.any fun x => !has L x) = xs.all (has L) := by rw [List.not_any_eq_all_not]; simp
  repeat' first
    | (apply RO.op; apply OP.callF; rfl; rfl; rfl; exact containsFunc (cs := [_]) (fun x => !has L x) (hS.take (.tail .head)) hr.tail.tail hl hm rfl (fun x w hS => hasClosure hS); clear hS; rintro v w1 ⟨rfl, hS⟩)
    | refine Run.seq ?_
    | refine Run.region ?_
    | (refine RO.split ?_ ?_ <;> intro hc <;> try (first | (exfalso; omega) | exact absurd rfl hc | exact Bool.noConfusion hc))
    | refine RO.nil ?_
    | refine RO.still (by exact Still.any) hS rfl ?_
    | (apply RO.op; apply OP.box hS; rfl; rfl; rfl; clear hS; intro b w1 hS)
    | (apply RO.op; apply OP.alloc hS; rfl; rfl; rfl; clear hS; intro b w1 hS)
    | (apply RO.op; apply OP.store hS; rfl; rfl; rfl; rfl; rfl; (focus ((repeat (first | apply Has.head | apply Take.head | apply Put.head | apply Has.tail | apply Take.tail | apply Put.tail)); done)); rfl; rfl; clear hS; intro w1 hS)
    | (apply RO.op; apply OP.buildSlice hS; rfl; rfl; (exact eqAuto); rfl; rfl; rfl; rfl; rfl; clear hS; intro b w1 hS)
    | (apply RO.op; apply OP.makeMap hS; rfl; clear hS; intro b w1 hS)
    | refine RO.yes rfl rfl ?_
    | refine RO.no rfl rfl rfl rfl ?_
    | refine RO.noUndef rfl rfl rfl ?_
    | refine RO.noNone rfl rfl rfl ?_
    | refine Run.cond_true rfl ?_
    | refine Run.cond_false rfl ?_
    | refine Run.skip ?_
    | refine Run.block ?_
    | refine Run.inBlock ?_
    | refine Run.exit rfl ?_
  refine Run.ret Try.func30 rfl (.tmp rfl .nil) ?_
  exact ⟨by simp only [tup, hall], hS.drop (.tail .head)⟩
end Go.Proofs.Ythejfodjielahaa
