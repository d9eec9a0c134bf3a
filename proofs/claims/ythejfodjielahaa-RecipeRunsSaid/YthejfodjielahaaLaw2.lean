/-
  The laws' helpers for the layer of terms: Built, Same.
-/
import Derived.Test.YthejfodjielahaaLaw
import Derived.Test.YthejfodjielahaaArgs
import Derived.Test.YthejfodjielahaaTermRt
namespace Go.Proofs.Ythejfodjielahaa
set_option maxRecDepth 8000
set_option linter.unusedSimpArgs false
set_option linter.unusedVariables false
open Go Go.RowKit

/-- Nodes that came in. -/
abbrev Nds (ρ : List (Nat × Obj)) (v : Value) (l : List Nd) : Prop := Sl ρ ndL 5 v l

/-- What is there behind the making of nodes, one by one. -/
def builtUp (lim : Nat) (l : List Nd) : List Nd := l.foldl (fun L n => (mk lim L n).1) [Nd.z]

section
variable {we w : World} {ρ : List (Nat × Obj)} {σ F : List HP} {p lim : Nat} {L : List Nd} {a : Value}

theorem ra_eq (h : St we ρ (RA a lim L :: F) w) : ∃ r cap, a = raV lim r L.length cap ∧ St we ρ (RA a lim L :: F) w := by
  obtain ⟨r, cap, spare, h1, h2, h3, h4, h5, h6⟩ := ra_open h
  exact ⟨r, cap, h1, h⟩

theorem builtUp_take {l : List Nd} {i : Nat} (h : i < l.length) : builtUp lim (l.take (i + 1)) = (mk lim (builtUp lim (l.take i)) (nd l i)).1 := by
  unfold builtUp
  rw [List.take_add_one, List.getElem?_eq_getElem h, Option.toList_some, List.foldl_append, nd_nat h]
  rfl
theorem builtUp_good {limit : Int} (l : List Nd) : Good (room limit) (builtUp (room limit) l) := by
  unfold builtUp
  have : ∀ (l : List Nd) (L : List Nd), Good (room limit) L → Good (room limit) (l.foldl (fun L n => (mk (room limit) L n).1) L) := by
    intro l
    induction l with
    | nil => intro L h; exact h
    | cons n l ih => intro L h; exact ih _ (mk_good h n)
  exact this l _ (room_good limit)

theorem builtUp_rt {limit : Int} (l : List Nd) : Rt (builtUp (room limit) l) := by
  unfold builtUp
  have : ∀ (l : List Nd) (L : List Nd), Good (room limit) L → Rt L → Rt (l.foldl (fun L n => (mk (room limit) L n).1) L) := by
    intro l
    induction l with
    | nil => intro L g h; exact h
    | cons n l ih => intro L g h; exact ih _ (mk_good g n) (mk_rt g h n)
  exact this l _ (room_good limit) rt_new
theorem builtUp_len {lim : Nat} (l : List Nd) : (builtUp lim l).length ≤ l.length + 1 := by
  unfold builtUp
  have : ∀ (l : List Nd) (L : List Nd), (l.foldl (fun L n => (mk lim L n).1) L).length ≤ l.length + L.length := by
    intro l
    induction l with
    | nil => intro L; simp
    | cons n l ih =>
      intro L
      have h1 := ih (mk lim L n).1
      have h2 : (mk lim L n).1.length ≤ L.length + 1 := by
        rcases mk_cases lim L n with ⟨e, _⟩ | ⟨i, e, _⟩ | ⟨e, _⟩ | ⟨e, _⟩ <;> rw [e] <;> simp
      simp only [List.foldl_cons, List.length_cons]; omega
  have := this l [Nd.z]
  simpa using this

theorem refCompareRA {x y : Int} (hS : St we ρ (RA a lim L :: F) w) :
    Cl Try.prog 54 [a, .int .i64 x, .int .i64 y] w fun v w' => v = .int .i64 (cmp L x y) ∧ St we ρ (RA a lim L :: F) w' := by
  obtain ⟨r, cap, spare, rfl, g, g2, g3, g4, hS⟩ := ra_open hS
  exact (refCompare g hS (.own .head)).mono fun v w' ⟨h1, h2⟩ => ⟨h1, ra_shut rfl g g2 g3 g4 h2⟩
theorem refHas_is {x : Int} {r cap lim' : Nat} {b : Bool} (h : has L x = b) (hS : St we ρ σ w) : Cl Try.prog 53 [raV lim' r L.length cap, .int .i64 x] w fun v w' => v = .bool b ∧ St we ρ σ w' := by
  have := refHas (L := L) (r := r) (cap := cap) (lim := lim') (x := x) hS
  rwa [h] at this
theorem hasTwo {x y : Int} {t : Bool} {b cap : Nat} {el : TypeId} {fr : Nat × Nat} (h : [x, y].all (has L) = t) (hS : St we ρ (Arena p lim L :: F) w) (hr : Rd ρ F b (.cells [.int .i64 x, .int .i64 y].toArray el fr)) :
    Cl Try.prog 30 [.pointer (some ⟨p, 0, none⟩), .slice (some ⟨b, 0, none⟩) 2 cap] w fun v w' => v = .bool t ∧ St we ρ (Arena p lim L :: F) w' := by
  have := has_calls (xs := [x, y]) (cap := cap) hS hr ints2 len2
  rwa [h] at this
theorem hasOne {x : Int} {t : Bool} {b cap : Nat} {el : TypeId} {fr : Nat × Nat} (h : has L x = t) (hS : St we ρ (Arena p lim L :: F) w) (hr : Rd ρ F b (.cells [.int .i64 x].toArray el fr)) :
    Cl Try.prog 30 [.pointer (some ⟨p, 0, none⟩), .slice (some ⟨b, 0, none⟩) 1 cap] w fun v w' => v = .bool t ∧ St we ρ (Arena p lim L :: F) w' := by
  have := has_calls (xs := [x]) (cap := cap) hS hr ints1 len1
  have h2 : [x].all (has L) = t := by simpa using h
  rwa [h2] at this

set_option maxHeartbeats 4000000 in
theorem built_calls {limit : Int} {l : List Nd} {v : Value} (hl : l.length ≤ 40) (hv : Nds ρ v l) (hS : St we ρ σ w) :
    Cl Try.prog 23 [.int .i64 limit, v] w fun u w' => ∃ p a, u = .tuple #[.pointer (some ⟨p, 0, none⟩), a, .bool true] ∧ St we ρ (Arena p (room limit) (builtUp (room limit) l) :: RA a (room limit) (builtUp (room limit) l) :: σ) w' := by
  obtain ⟨⟨sp, cap, rfl, hle, hcm, hrow⟩⟩ := hv
  refine Run.calls2 (n := 61) Try.func23 rfl rfl rfl ?_
  repeat' first
    | (apply RO.op; apply OP.callF; rfl; rfl; rfl; show Cl _ 14 _ _ _; exact new_calls hS; clear hS; rintro v w1 ⟨p, rfl, hS⟩)
    | (apply RO.op; apply OP.callF; rfl; rfl; rfl; show Cl _ 32 _ _ _; exact refNew hS; clear hS; rintro v w1 hS; obtain ⟨r, c, rfl, hS⟩ := ra_eq hS)
    | refine Run.seq ?_
    | refine Run.region ?_
    | (refine RO.split ?_ ?_ <;> intro hc <;> try (first | (exfalso; omega) | exact absurd rfl hc | exact Bool.noConfusion hc))
    | refine RO.nil ?_
    | refine RO.still (by exact Still.any) hS rfl ?_
    | (apply RO.op; apply OP.box hS; rfl; rfl; rfl; clear hS; intro b w1 hS)
    | (apply RO.op; apply OP.alloc hS; rfl; rfl; rfl; clear hS; intro b w1 hS)
    | (apply RO.op; apply OP.store hS; rfl; rfl; rfl; rfl; rfl; (focus ((repeat (first | apply Has.head | apply Take.head | apply Put.head | apply Has.tail | apply Take.tail | apply Put.tail)); done)); rfl; rfl; clear hS; intro w1 hS)
    | (apply RO.op; apply OP.buildSlice hS; rfl; rfl; (exact eqAuto); rfl; rfl; rfl; rfl; rfl; clear hS; intro b w1 hS)
    | (apply RO.op; apply OP.makeMap hS; rfl; clear hS; intro b w1 hS)
    | refine RO.yes rfl rfl ?_
    | refine RO.no rfl rfl rfl rfl ?_
    | refine RO.noUndef rfl rfl rfl ?_
    | refine RO.noNone rfl rfl rfl ?_
    | refine Run.cond_true rfl ?_
    | refine Run.cond_false rfl ?_
    | refine Run.skip ?_
    | refine Run.block ?_
    | refine Run.inBlock ?_
    | refine Run.exit rfl ?_
  rename_i b5 _ _ _ _ _
  rename Nat => b8
  refine Run.while (fun i : Nat => [(4, .pointer none), (5, .pointer (some ⟨b5, 0, none⟩)), (6, .bool false), (7, .pointer (some ⟨p, 0, none⟩)), (8, .pointer (some ⟨b8, 0, none⟩)), (28, .slice sp l.length cap), (29, .int .i64 l.length), (30, .int .i64 i)])
    (fun i w => i ≤ l.length ∧ ∃ r c, St we ρ (Row b8 [.int .i64 (room limit), .slice (some ⟨r, 0, none⟩) (builtUp (room limit) (l.take i)).length c] 29 ::
      RA (raV (room limit) r (builtUp (room limit) (l.take i)).length c) (room limit) (builtUp (room limit) (l.take i)) :: Arena p (room limit) (builtUp (room limit) (l.take i)) ::
      Row b5 [.int .i64 0, .slice none 0 0] 29 :: σ) w) (fun i => l.length - i) 0 ⟨by omega, r, c, hS⟩ (by focus ((repeat (first | exact .nil | refine .cons rfl ?_)); done)) ?_
  clear hS
  rintro i w ⟨hi, r, c, hS⟩ ih
  by_cases hlt : i < l.length
  · obtain ⟨bb, off, cs, el, fr, rfl, hmem, hnd⟩ := hrow (by omega)
    have hni := hnd i hlt
    rw [← nd_nat hlt] at hni
    have hup := builtUp_take (lim := room limit) hlt
    generalize hL : builtUp (room limit) (l.take i) = L at *
    repeat' first
      | (refine RO.still (by apply Still.loadAgg; rfl; rfl; (exact eqAuto); exact Rd.ro hmem; exact hni; rfl) hS rfl ?_)
      | (apply RO.op; apply OP.callF; rfl; rfl; rfl; show Cl _ 20 _ _ _; exact mk_calls (n := nd l i) (hS.take (by focus ((repeat (first | apply Has.head | apply Take.head | apply Put.head | apply Has.tail | apply Take.tail | apply Put.tail)); done))); clear hS; rintro v w1 ⟨rfl, hS⟩)
      | refine Run.seq ?_
      | refine Run.region ?_
      | (refine RO.split ?_ ?_ <;> intro hc <;> try (first | (exfalso; omega) | exact absurd rfl hc | exact Bool.noConfusion hc))
      | refine RO.nil ?_
      | refine RO.still (by exact Still.any) hS rfl ?_
      | (apply RO.op; apply OP.box hS; rfl; rfl; rfl; clear hS; intro b w1 hS)
      | (apply RO.op; apply OP.alloc hS; rfl; rfl; rfl; clear hS; intro b w1 hS)
      | (apply RO.op; apply OP.store hS; rfl; rfl; rfl; rfl; rfl; (focus ((repeat (first | apply Has.head | apply Take.head | apply Put.head | apply Has.tail | apply Take.tail | apply Put.tail)); done)); rfl; rfl; clear hS; intro w1 hS)
      | (apply RO.op; apply OP.buildSlice hS; rfl; rfl; (exact eqAuto); rfl; rfl; rfl; rfl; rfl; clear hS; intro b w1 hS)
      | (apply RO.op; apply OP.makeMap hS; rfl; clear hS; intro b w1 hS)
      | refine RO.yes rfl rfl ?_
      | refine RO.no rfl rfl rfl rfl ?_
      | refine RO.noUndef rfl rfl rfl ?_
      | refine RO.noNone rfl rfl rfl ?_
      | refine Run.cond_true rfl ?_
      | refine Run.cond_false rfl ?_
      | refine Run.skip ?_
      | refine Run.block ?_
      | refine Run.inBlock ?_
      | refine Run.exit rfl ?_
    refine (Run.regionH_cut (fun x : Nat × Nat × Nat => Row x.1 [.int .i64 (room limit), .slice (some ⟨x.2.1, 0, none⟩) (mk (room limit) L (nd l i)).1.length x.2.2] 29 ::
        RA (raV (room limit) x.2.1 (mk (room limit) L (nd l i)).1.length x.2.2) (room limit) (mk (room limit) L (nd l i)).1 :: Arena p (room limit) (mk (room limit) L (nd l i)).1 ::
        Row b8 [.int .i64 (room limit), .slice (some ⟨r, 0, none⟩) L.length c] 29 :: Row b5 [.int .i64 0, .slice none 0 0] 29 :: σ)
      (fun x => [(4, .pointer none), (5, .pointer (some ⟨b5, 0, none⟩)), (6, .bool false), (7, .pointer (some ⟨p, 0, none⟩)), (8, .pointer (some ⟨b8, 0, none⟩)), (28, .slice (some ⟨bb, off, none⟩) l.length cap), (29, .int .i64 l.length), (30, .int .i64 i),
        (11, .int .i64 (mk (room limit) L (nd l i)).2.1), (12, .int .i64 (mk (room limit) L (nd l i)).2.2), (14, .int .i64 (mk (room limit) L (nd l i)).2.1), (15, .int .i64 (mk (room limit) L (nd l i)).2.2), (13, .pointer (some ⟨x.1, 0, none⟩))])
      hS (.cons_cons _ (.cons_cons _ (.cons_cons _ (.cons _ (List.Sublist.refl _))))) (by rfl) (by rfl) (by rfl) ?_ ?_)
    · clear hS
      intro w1 hS
      repeat' first
        | (apply RH.take (i := 0) (listed := #[false, false, false, false, false, false, false, false, false, false, false, false]) (listed' := #[true, false, false, false, false, false, false, false, false, false, false, false]); rfl; kernel_rfl; rfl; (first | (apply Still.load; rfl; rfl; (exact Rd.any); (first | rfl | exact flat_get0 (by assumption) | exact flat_get1 (by assumption) | exact flat_get2 (by assumption) | exact flat_get3 (by assumption) | exact flat_get4 (by assumption))) | (apply Still.loadAgg; rfl; rfl; (exact eqAuto); (exact Rd.any); (first | exact flat_take (by assumption) | rfl); rfl)); (first | exact hS | exact hS.tail | exact hS.sublist (by repeat (first | exact List.Sublist.refl _ | refine .cons_cons _ ?_ | refine .cons _ ?_))); rfl)
        | (apply RH.take (i := 1) (listed := #[true, false, false, false, false, false, false, false, false, false, false, false]) (listed' := #[true, true, false, false, false, false, false, false, false, false, false, false]); rfl; kernel_rfl; rfl; (first | (apply Still.load; rfl; rfl; (exact Rd.any); (first | rfl | exact flat_get0 (by assumption) | exact flat_get1 (by assumption) | exact flat_get2 (by assumption) | exact flat_get3 (by assumption) | exact flat_get4 (by assumption))) | (apply Still.loadAgg; rfl; rfl; (exact eqAuto); (exact Rd.any); (first | exact flat_take (by assumption) | rfl); rfl)); (first | exact hS | exact hS.tail | exact hS.sublist (by repeat (first | exact List.Sublist.refl _ | refine .cons_cons _ ?_ | refine .cons _ ?_))); rfl)
        | (apply RH.all2 (i1 := 2) (i2 := 8) (listed := #[true, true, false, false, false, false, false, false, false, false, false, false]); kernel_rfl)
        | (apply RI.op (i := 2) (listed := #[true, true, false, false, false, false, false, false, false, false, false, false]) (listed' := #[true, true, true, false, false, false, false, false, false, false, false, false]); rfl; rfl)
        | (apply RI.op (i := 8) (listed := #[true, true, false, false, false, false, false, false, false, false, false, false]) (listed' := #[true, true, false, false, false, false, false, false, true, false, false, false]); rfl; rfl)
        | (apply RH.all2 (i1 := 3) (i2 := 8) (listed := #[true, true, true, false, false, false, false, false, false, false, false, false]); kernel_rfl)
        | (apply RI.op (i := 3) (listed := #[true, true, true, false, false, false, false, false, false, false, false, false]) (listed' := #[true, true, true, true, false, false, false, false, false, false, false, false]); rfl; rfl)
        | (apply RI.op (i := 8) (listed := #[true, true, true, false, false, false, false, false, false, false, false, false]) (listed' := #[true, true, true, false, false, false, false, false, true, false, false, false]); rfl; rfl)
        | (apply RH.take (i := 4) (listed := #[true, true, true, true, false, false, false, false, false, false, false, false]) (listed' := #[true, true, true, true, true, false, false, false, false, false, false, false]); rfl; kernel_rfl; rfl; (apply Still.move; rfl); (first | exact hS | exact hS.tail | exact hS.sublist (by repeat (first | exact List.Sublist.refl _ | refine .cons_cons _ ?_ | refine .cons _ ?_))); rfl)
        | (apply RH.take (i := 5) (listed := #[true, true, true, true, true, false, false, false, false, false, false, false]) (listed' := #[true, true, true, true, true, true, false, false, false, false, false, false]); rfl; kernel_rfl; rfl; (apply Still.extract; rfl; rfl); (first | exact hS | exact hS.tail | exact hS.sublist (by repeat (first | exact List.Sublist.refl _ | refine .cons_cons _ ?_ | refine .cons _ ?_))); rfl)
        | (apply RH.take (i := 6) (listed := #[true, true, true, true, true, true, false, false, false, false, false, false]) (listed' := #[true, true, true, true, true, true, true, false, false, false, false, false]); rfl; kernel_rfl; rfl; (apply Still.extract; rfl; rfl); (first | exact hS | exact hS.tail | exact hS.sublist (by repeat (first | exact List.Sublist.refl _ | refine .cons_cons _ ?_ | refine .cons _ ?_))); rfl)
        | (apply RH.take (i := 7) (listed := #[true, true, true, true, true, true, true, false, false, false, false, false]) (listed' := #[true, true, true, true, true, true, true, true, false, false, false, false]); rfl; kernel_rfl; rfl; (apply Still.extract; rfl; rfl); (first | exact hS | exact hS.tail | exact hS.sublist (by repeat (first | exact List.Sublist.refl _ | refine .cons_cons _ ?_ | refine .cons _ ?_))); rfl)
        | (apply RH.all1 (i := 8) (listed := #[true, true, true, true, true, true, true, true, false, false, false, false]); kernel_rfl)
        | (apply RI.op (i := 8) (listed := #[true, true, true, true, true, true, true, true, false, false, false, false]) (listed' := #[true, true, true, true, true, true, true, true, true, false, false, false]); rfl; rfl)
        | (apply RH.all1 (i := 9) (listed := #[true, true, true, true, true, true, true, true, true, false, false, false]); kernel_rfl)
        | (apply RI.op (i := 9) (listed := #[true, true, true, true, true, true, true, true, true, false, false, false]) (listed' := #[true, true, true, true, true, true, true, true, true, true, false, false]); rfl; rfl)
        | (apply RH.take (i := 10) (listed := #[true, true, true, true, true, true, true, true, true, true, false, false]) (listed' := #[true, true, true, true, true, true, true, true, true, true, true, false]); rfl; kernel_rfl; rfl; (apply Still.assign; rfl); (first | exact hS | exact hS.tail | exact hS.sublist (by repeat (first | exact List.Sublist.refl _ | refine .cons_cons _ ?_ | refine .cons _ ?_))); rfl)
        | (apply RH.take (i := 11) (listed := #[true, true, true, true, true, true, true, true, true, true, true, false]) (listed' := #[true, true, true, true, true, true, true, true, true, true, true, true]); rfl; kernel_rfl; rfl; (apply Still.assign; rfl); (first | exact hS | exact hS.tail | exact hS.sublist (by repeat (first | exact List.Sublist.refl _ | refine .cons_cons _ ?_ | refine .cons _ ?_))); rfl)
        | (apply RH.done (listed := #[true, true, true, true, true, true, true, true, true, true, true, true]); kernel_rfl)
        | (apply RH.all1 (i := 3) (listed := #[true, true, true, false, false, false, false, false, true, false, false, false]); kernel_rfl)
        | (apply RI.op (i := 3) (listed := #[true, true, true, false, false, false, false, false, true, false, false, false]) (listed' := #[true, true, true, true, false, false, false, false, true, false, false, false]); rfl; rfl)
        | (apply RH.take (i := 4) (listed := #[true, true, true, true, false, false, false, false, true, false, false, false]) (listed' := #[true, true, true, true, true, false, false, false, true, false, false, false]); rfl; kernel_rfl; rfl; (apply Still.move; rfl); (first | exact hS | exact hS.tail | exact hS.sublist (by repeat (first | exact List.Sublist.refl _ | refine .cons_cons _ ?_ | refine .cons _ ?_))); rfl)
        | (apply RH.take (i := 5) (listed := #[true, true, true, true, true, false, false, false, true, false, false, false]) (listed' := #[true, true, true, true, true, true, false, false, true, false, false, false]); rfl; kernel_rfl; rfl; (apply Still.extract; rfl; rfl); (first | exact hS | exact hS.tail | exact hS.sublist (by repeat (first | exact List.Sublist.refl _ | refine .cons_cons _ ?_ | refine .cons _ ?_))); rfl)
        | (apply RH.take (i := 6) (listed := #[true, true, true, true, true, true, false, false, true, false, false, false]) (listed' := #[true, true, true, true, true, true, true, false, true, false, false, false]); rfl; kernel_rfl; rfl; (apply Still.extract; rfl; rfl); (first | exact hS | exact hS.tail | exact hS.sublist (by repeat (first | exact List.Sublist.refl _ | refine .cons_cons _ ?_ | refine .cons _ ?_))); rfl)
        | (apply RH.take (i := 7) (listed := #[true, true, true, true, true, true, true, false, true, false, false, false]) (listed' := #[true, true, true, true, true, true, true, true, true, false, false, false]); rfl; kernel_rfl; rfl; (apply Still.extract; rfl; rfl); (first | exact hS | exact hS.tail | exact hS.sublist (by repeat (first | exact List.Sublist.refl _ | refine .cons_cons _ ?_ | refine .cons _ ?_))); rfl)
        | (apply RH.all1 (i := 2) (listed := #[true, true, false, false, false, false, false, false, true, false, false, false]); kernel_rfl)
        | (apply RI.op (i := 2) (listed := #[true, true, false, false, false, false, false, false, true, false, false, false]) (listed' := #[true, true, true, false, false, false, false, false, true, false, false, false]); rfl; rfl)
        | (apply OP.callF; rfl; rfl; rfl; show Cl _ 28 _ _ _; exact oneNd (n := nd l i) hS; clear hS; rintro v w1 ⟨rfl, hS⟩; refine ⟨(by first | exact hS | exact hS.tail | exact hS.sublist (by repeat (first | exact List.Sublist.refl _ | refine .cons_cons _ ?_ | refine .cons _ ?_))), ?_⟩)
        | (apply OP.callF; rfl; rfl; rfl; show Cl _ 33 _ _ _; exact refMk (n := nd l i) (hS.take (by focus ((repeat (first | apply Has.head | apply Take.head | apply Put.head | apply Has.tail | apply Take.tail | apply Put.tail)); done))); clear hS; rintro v w1 ⟨a', rfl, hS⟩; obtain ⟨r2, c2, rfl, hS⟩ := ra_eq hS; refine ⟨hS.picks (by focus ((repeat (first | apply Picks.all | apply Picks.nil | (refine Picks.cons (by repeat (first | apply Take.head | apply Take.tail)) ?_) | apply Picks.drop)); done)), ?_⟩)
        | (refine RH.split ?_ ?_ <;> intro hc <;> try (first | (exfalso; omega) | exact absurd rfl hc | exact Bool.noConfusion hc))
        | (apply OP.box hS; rfl; rfl; rfl; clear hS; intro b w1 hS; refine ⟨(by first | exact hS | exact hS.tail | exact hS.sublist (by repeat (first | exact List.Sublist.refl _ | refine .cons_cons _ ?_ | refine .cons _ ?_))), ?_⟩)
        | (apply OP.alloc hS; rfl; rfl; rfl; clear hS; intro b w1 hS; refine ⟨(by first | exact hS | exact hS.tail | exact hS.sublist (by repeat (first | exact List.Sublist.refl _ | refine .cons_cons _ ?_ | refine .cons _ ?_))), ?_⟩)
        | (apply OP.store hS; rfl; rfl; rfl; rfl; rfl; (focus ((repeat (first | apply Has.head | apply Take.head | apply Put.head | apply Has.tail | apply Take.tail | apply Put.tail)); done)); rfl; rfl; clear hS; intro w1 hS; refine ⟨(by first | exact hS | exact hS.tail | exact hS.sublist (by repeat (first | exact List.Sublist.refl _ | refine .cons_cons _ ?_ | refine .cons _ ?_))), ?_⟩)
        | (apply OP.buildSlice hS; rfl; rfl; (exact eqAuto); rfl; rfl; rfl; rfl; rfl; clear hS; intro b w1 hS; refine ⟨(by first | exact hS | exact hS.tail | exact hS.sublist (by repeat (first | exact List.Sublist.refl _ | refine .cons_cons _ ?_ | refine .cons _ ?_))), ?_⟩)
        | (apply OP.makeMap hS; rfl; clear hS; intro b w1 hS; refine ⟨(by first | exact hS | exact hS.tail | exact hS.sublist (by repeat (first | exact List.Sublist.refl _ | refine .cons_cons _ ?_ | refine .cons _ ?_))), ?_⟩)
        | (refine OP.still (by exact Still.any) hS rfl ⟨(by first | exact hS | exact hS.tail | exact hS.sublist (by repeat (first | exact List.Sublist.refl _ | refine .cons_cons _ ?_ | refine .cons _ ?_))), ?_⟩)
      all_goals exact ⟨(b, r2, c2), (by focus ((repeat (first | exact .nil | refine .cons rfl ?_)); done)), hS.picks (by focus ((repeat (first | apply Picks.all | apply Picks.nil | (refine Picks.cons (by repeat (first | apply Take.head | apply Take.tail)) ?_) | apply Picks.drop)); done))⟩
    · clear hS
      rintro ⟨b13, r2, c2⟩ w1 hS
      repeat' first
        | refine Run.seq ?_
        | refine Run.region ?_
        | (refine RO.split ?_ ?_ <;> intro hc <;> try (first | (exfalso; omega) | exact absurd rfl hc | exact Bool.noConfusion hc))
        | refine RO.nil ?_
        | refine RO.still (by exact Still.any) hS rfl ?_
        | (apply RO.op; apply OP.box hS; rfl; rfl; rfl; clear hS; intro b w1 hS)
        | (apply RO.op; apply OP.alloc hS; rfl; rfl; rfl; clear hS; intro b w1 hS)
        | (apply RO.op; apply OP.store hS; rfl; rfl; rfl; rfl; rfl; (focus ((repeat (first | apply Has.head | apply Take.head | apply Put.head | apply Has.tail | apply Take.tail | apply Put.tail)); done)); rfl; rfl; clear hS; intro w1 hS)
        | (apply RO.op; apply OP.buildSlice hS; rfl; rfl; (exact eqAuto); rfl; rfl; rfl; rfl; rfl; clear hS; intro b w1 hS)
        | (apply RO.op; apply OP.makeMap hS; rfl; clear hS; intro b w1 hS)
        | refine RO.yes rfl rfl ?_
        | refine RO.no rfl rfl rfl rfl ?_
        | refine RO.noUndef rfl rfl rfl ?_
        | refine RO.noNone rfl rfl rfl ?_
        | refine Run.cond_true rfl ?_
        | refine Run.cond_false rfl ?_
        | refine Run.skip ?_
        | refine Run.block ?_
        | refine Run.inBlock ?_
        | refine Run.exit rfl ?_
      refine Run.weaken (by focus ((repeat (first | exact .nil | refine .cons rfl ?_)); done)) (ih (i + 1) _ ⟨by omega, r2, c2, ?_⟩ (by omega))
      rw [hup]
      exact hS.picks (by focus ((repeat (first | apply Picks.all | apply Picks.nil | (refine Picks.cons (by repeat (first | apply Take.head | apply Take.tail)) ?_) | apply Picks.drop)); done))
  · obtain rfl : i = l.length := by omega
    rw [List.take_length] at hS
    repeat' first
      | refine Run.seq ?_
      | refine Run.region ?_
      | (refine RO.split ?_ ?_ <;> intro hc <;> try (first | (exfalso; omega) | exact absurd rfl hc | exact Bool.noConfusion hc))
      | refine RO.nil ?_
      | refine RO.still (by exact Still.any) hS rfl ?_
      | (apply RO.op; apply OP.box hS; rfl; rfl; rfl; clear hS; intro b w1 hS)
      | (apply RO.op; apply OP.alloc hS; rfl; rfl; rfl; clear hS; intro b w1 hS)
      | (apply RO.op; apply OP.store hS; rfl; rfl; rfl; rfl; rfl; (focus ((repeat (first | apply Has.head | apply Take.head | apply Put.head | apply Has.tail | apply Take.tail | apply Put.tail)); done)); rfl; rfl; clear hS; intro w1 hS)
      | (apply RO.op; apply OP.buildSlice hS; rfl; rfl; (exact eqAuto); rfl; rfl; rfl; rfl; rfl; clear hS; intro b w1 hS)
      | (apply RO.op; apply OP.makeMap hS; rfl; clear hS; intro b w1 hS)
      | refine RO.yes rfl rfl ?_
      | refine RO.no rfl rfl rfl rfl ?_
      | refine RO.noUndef rfl rfl rfl ?_
      | refine RO.noNone rfl rfl rfl ?_
      | refine Run.cond_true rfl ?_
      | refine Run.cond_false rfl ?_
      | refine Run.skip ?_
      | refine Run.block ?_
      | refine Run.inBlock ?_
      | refine Run.exit rfl ?_
    refine Run.regionH_of hS (.cons_cons _ (.cons_cons _ (.cons_cons _ (.cons _ (List.Sublist.refl _))))) (by rfl) (by rfl) (by rfl) ?_
    clear hS
    intro w1 hS
    repeat' first
      | (apply RH.take (i := 0) (listed := #[false, false, false, false, false]) (listed' := #[true, false, false, false, false]); rfl; kernel_rfl; rfl; (apply Still.move; rfl); (first | exact hS | exact hS.tail | exact hS.sublist (by repeat (first | exact List.Sublist.refl _ | refine .cons_cons _ ?_ | refine .cons _ ?_))); rfl)
      | (apply RH.take (i := 1) (listed := #[true, false, false, false, false]) (listed' := #[true, true, false, false, false]); rfl; kernel_rfl; rfl; (first | (apply Still.load; rfl; rfl; (exact Rd.any); (first | rfl | exact flat_get0 (by assumption) | exact flat_get1 (by assumption) | exact flat_get2 (by assumption) | exact flat_get3 (by assumption) | exact flat_get4 (by assumption))) | (apply Still.loadAgg; rfl; rfl; (exact eqAuto); (exact Rd.any); (first | exact flat_take (by assumption) | rfl); rfl)); (first | exact hS | exact hS.tail | exact hS.sublist (by repeat (first | exact List.Sublist.refl _ | refine .cons_cons _ ?_ | refine .cons _ ?_))); rfl)
      | (apply RH.take (i := 2) (listed := #[true, true, false, false, false]) (listed' := #[true, true, true, false, false]); rfl; kernel_rfl; rfl; (apply Still.assign; rfl); (first | exact hS | exact hS.tail | exact hS.sublist (by repeat (first | exact List.Sublist.refl _ | refine .cons_cons _ ?_ | refine .cons _ ?_))); rfl)
      | (apply RH.all1 (i := 3) (listed := #[true, true, true, false, false]); kernel_rfl)
      | (apply RI.op (i := 3) (listed := #[true, true, true, false, false]) (listed' := #[true, true, true, true, false]); rfl; rfl)
      | (apply RH.take (i := 4) (listed := #[true, true, true, true, false]) (listed' := #[true, true, true, true, true]); rfl; kernel_rfl; rfl; (apply Still.assign; rfl); (first | exact hS | exact hS.tail | exact hS.sublist (by repeat (first | exact List.Sublist.refl _ | refine .cons_cons _ ?_ | refine .cons _ ?_))); rfl)
      | (apply RH.done (listed := #[true, true, true, true, true]); kernel_rfl)
      | (refine RH.split ?_ ?_ <;> intro hc <;> try (first | (exfalso; omega) | exact absurd rfl hc | exact Bool.noConfusion hc))
      | (apply OP.box hS; rfl; rfl; rfl; clear hS; intro b w1 hS; refine ⟨(by first | exact hS | exact hS.tail | exact hS.sublist (by repeat (first | exact List.Sublist.refl _ | refine .cons_cons _ ?_ | refine .cons _ ?_))), ?_⟩)
      | (apply OP.alloc hS; rfl; rfl; rfl; clear hS; intro b w1 hS; refine ⟨(by first | exact hS | exact hS.tail | exact hS.sublist (by repeat (first | exact List.Sublist.refl _ | refine .cons_cons _ ?_ | refine .cons _ ?_))), ?_⟩)
      | (apply OP.store hS; rfl; rfl; rfl; rfl; rfl; (focus ((repeat (first | apply Has.head | apply Take.head | apply Put.head | apply Has.tail | apply Take.tail | apply Put.tail)); done)); rfl; rfl; clear hS; intro w1 hS; refine ⟨(by first | exact hS | exact hS.tail | exact hS.sublist (by repeat (first | exact List.Sublist.refl _ | refine .cons_cons _ ?_ | refine .cons _ ?_))), ?_⟩)
      | (apply OP.buildSlice hS; rfl; rfl; (exact eqAuto); rfl; rfl; rfl; rfl; rfl; clear hS; intro b w1 hS; refine ⟨(by first | exact hS | exact hS.tail | exact hS.sublist (by repeat (first | exact List.Sublist.refl _ | refine .cons_cons _ ?_ | refine .cons _ ?_))), ?_⟩)
      | (apply OP.makeMap hS; rfl; clear hS; intro b w1 hS; refine ⟨(by first | exact hS | exact hS.tail | exact hS.sublist (by repeat (first | exact List.Sublist.refl _ | refine .cons_cons _ ?_ | refine .cons _ ?_))), ?_⟩)
      | (refine OP.still (by exact Still.any) hS rfl ⟨(by first | exact hS | exact hS.tail | exact hS.sublist (by repeat (first | exact List.Sublist.refl _ | refine .cons_cons _ ?_ | refine .cons _ ?_))), ?_⟩)
    all_goals
      repeat' first
        | refine Run.seq ?_
        | refine Run.region ?_
        | (refine RO.split ?_ ?_ <;> intro hc <;> try (first | (exfalso; omega) | exact absurd rfl hc | exact Bool.noConfusion hc))
        | refine RO.nil ?_
        | refine RO.still (by exact Still.any) hS rfl ?_
        | (apply RO.op; apply OP.box hS; rfl; rfl; rfl; clear hS; intro b w1 hS)
        | (apply RO.op; apply OP.alloc hS; rfl; rfl; rfl; clear hS; intro b w1 hS)
        | (apply RO.op; apply OP.store hS; rfl; rfl; rfl; rfl; rfl; (focus ((repeat (first | apply Has.head | apply Take.head | apply Put.head | apply Has.tail | apply Take.tail | apply Put.tail)); done)); rfl; rfl; clear hS; intro w1 hS)
        | (apply RO.op; apply OP.buildSlice hS; rfl; rfl; (exact eqAuto); rfl; rfl; rfl; rfl; rfl; clear hS; intro b w1 hS)
        | (apply RO.op; apply OP.makeMap hS; rfl; clear hS; intro b w1 hS)
        | refine RO.yes rfl rfl ?_
        | refine RO.no rfl rfl rfl rfl ?_
        | refine RO.noUndef rfl rfl rfl ?_
        | refine RO.noNone rfl rfl rfl ?_
        | refine Run.cond_true rfl ?_
        | refine Run.cond_false rfl ?_
        | refine Run.skip ?_
        | refine Run.block ?_
        | refine Run.inBlock ?_
        | refine Run.exit rfl ?_
      refine Run.ret Try.func23 rfl (.tmp rfl (.cell rfl (by first | exact run_loadAgg rfl rfl (hS.rd (by exact Rd.any)) (by rfl) (by rfl) | exact run_loadScalar rfl (cell_of (hS.rd (by exact Rd.any)) (by rfl))) (.tmp rfl .nil))) ?_
      exact ⟨p, raV (room limit) r (builtUp (room limit) l).length c, rfl, hS.picks (by focus ((repeat (first | apply Picks.all | apply Picks.nil | (refine Picks.cons (by repeat (first | apply Take.head | apply Take.tail)) ?_) | apply Picks.drop)); done))⟩

theorem get_at {x : Int} (hx : has L x = true) (hS : St we ρ (Arena p lim L :: F) w) :
    Cl Try.prog 22 [.pointer (some ⟨p, 0, none⟩), .int .i64 x] w fun v w' => v = .tuple #[ndV (nd L x), .bool true] ∧ St we ρ (Arena p lim L :: F) w' := by
  have := get_calls (x := x) hS
  rwa [hx] at this
theorem nd_same (n : Nd) : decide (n ≠ n) = false := by simp

theorem same_calls {lim' : Nat} (hS : St we ρ (Arena p lim L :: RA a lim' L :: F) w) :
    Cl Try.prog 18 [.pointer (some ⟨p, 0, none⟩), a] w fun v w' => v = .bool true ∧ St we ρ (Arena p lim L :: RA a lim' L :: F) w' := by
  obtain ⟨r, cap, spare, rfl, g, g2, g3, g4, hS⟩ := ra_open (hS.take (.tail .head))
  refine Run.calls2 (n := 39) Try.func18 rfl rfl rfl ?_
  repeat' first
    | refine Run.seq ?_
    | refine Run.region ?_
    | (refine RO.split ?_ ?_ <;> intro hc <;> try (first | (exfalso; omega) | exact absurd rfl hc | exact Bool.noConfusion hc))
    | refine RO.nil ?_
    | refine RO.still (by exact Still.any) hS rfl ?_
    | (apply RO.op; apply OP.box hS; rfl; rfl; rfl; clear hS; intro b w1 hS)
    | (apply RO.op; apply OP.alloc hS; rfl; rfl; rfl; clear hS; intro b w1 hS)
    | (apply RO.op; apply OP.store hS; rfl; rfl; rfl; rfl; rfl; (focus ((repeat (first | apply Has.head | apply Take.head | apply Put.head | apply Has.tail | apply Take.tail | apply Put.tail)); done)); rfl; rfl; clear hS; intro w1 hS)
    | (apply RO.op; apply OP.buildSlice hS; rfl; rfl; (exact eqAuto); rfl; rfl; rfl; rfl; rfl; clear hS; intro b w1 hS)
    | (apply RO.op; apply OP.makeMap hS; rfl; clear hS; intro b w1 hS)
    | refine RO.yes rfl rfl ?_
    | refine RO.no rfl rfl rfl rfl ?_
    | refine RO.noUndef rfl rfl rfl ?_
    | refine RO.noNone rfl rfl rfl ?_
    | refine Run.cond_true rfl ?_
    | refine Run.cond_false rfl ?_
    | refine Run.skip ?_
    | refine Run.block ?_
    | refine Run.inBlock ?_
    | refine Run.exit rfl ?_
  replace hS := hS.take (A := Arena p lim L) (by focus ((repeat (first | apply Has.head | apply Take.head | apply Put.head | apply Has.tail | apply Take.tail | apply Put.tail)); done))
  repeat' first
    | (refine Run.regionQ_of hS (by rfl) (by kernel_rfl) ?_; clear hS)
    | (apply RQ.callF; rfl; rfl; rfl; exact fun w hS => len_calls hS)
    | (refine RQ.split ?_ ?_ <;> intro hc <;> try (first | (exfalso; omega) | exact absurd rfl hc | exact Bool.noConfusion hc))
    | (refine RQ.nil ?_; (try clear hS); intro w1 hS)
    | refine RQ.still (by exact Still.any) rfl ?_
    | refine RQ.yes rfl rfl ?_
    | refine RQ.no rfl rfl rfl rfl ?_
    | refine RQ.noUndef rfl rfl rfl ?_
    | refine Run.seq ?_
    | refine Run.region ?_
    | (refine RO.split ?_ ?_ <;> intro hc <;> try (first | (exfalso; omega) | exact absurd rfl hc | exact Bool.noConfusion hc))
    | refine RO.nil ?_
    | refine RO.still (by exact Still.any) hS rfl ?_
    | (apply RO.op; apply OP.box hS; rfl; rfl; rfl; clear hS; intro b w1 hS)
    | (apply RO.op; apply OP.alloc hS; rfl; rfl; rfl; clear hS; intro b w1 hS)
    | (apply RO.op; apply OP.store hS; rfl; rfl; rfl; rfl; rfl; (focus ((repeat (first | apply Has.head | apply Take.head | apply Put.head | apply Has.tail | apply Take.tail | apply Put.tail)); done)); rfl; rfl; clear hS; intro w1 hS)
    | (apply RO.op; apply OP.buildSlice hS; rfl; rfl; (exact eqAuto); rfl; rfl; rfl; rfl; rfl; clear hS; intro b w1 hS)
    | (apply RO.op; apply OP.makeMap hS; rfl; clear hS; intro b w1 hS)
    | refine RO.yes rfl rfl ?_
    | refine RO.no rfl rfl rfl rfl ?_
    | refine RO.noUndef rfl rfl rfl ?_
    | refine RO.noNone rfl rfl rfl ?_
    | refine Run.cond_true rfl ?_
    | refine Run.cond_false rfl ?_
    | refine Run.skip ?_
    | refine Run.block ?_
    | refine Run.inBlock ?_
    | refine Run.exit rfl ?_
  refine Run.while (fun i : Nat => [(0, .pointer (some ⟨p, 0, none⟩)), (3, .pointer (some ⟨b, 0, none⟩)), (4, .bool false), (16, .int .i64 L.length), (17, .int .i64 i)])
    (fun i w => i ≤ L.length ∧ St we ρ (Arena p lim L :: Row b [.int .i64 lim', .slice (some ⟨r, 0, none⟩) L.length cap] 29 :: Row r (flat L ++ spare) 78 :: F) w) (fun i => L.length - i) 0 ⟨by omega, hS⟩ (by focus ((repeat (first | exact .nil | refine .cons rfl ?_)); done)) ?_
  clear hS
  rintro i w ⟨hi, hS⟩ ih
  by_cases hlt : i < L.length
  · have hih : has L (i : Int) = true := has_of hlt
    have hlim := g.lim
    have hlen := g.len
    repeat' first
      | (apply RO.op; apply OP.callF; rfl; rfl; rfl; show Cl _ 22 _ _ _; exact get_at hih (hS.take (by focus ((repeat (first | apply Has.head | apply Take.head | apply Put.head | apply Has.tail | apply Take.tail | apply Put.tail)); done))); clear hS; rintro v w1 ⟨rfl, hS⟩)
      | (refine Run.regionQ_of hS (by rfl) (by kernel_rfl) ?_; clear hS)
      | (apply RQ.callF; rfl; rfl; rfl; exact fun w hS => oneNd (n := nd L i) hS)
      | (refine RQ.still (by apply Still.neqNd (a := nd L i) (b := nd L i) nodeT2; rfl; rfl) rfl ?_; rw [nd_same])
      | (refine RQ.split ?_ ?_ <;> intro hc <;> try (first | (exfalso; omega) | exact absurd rfl hc | exact Bool.noConfusion hc))
      | (refine RQ.nil ?_; (try clear hS); intro w1 hS)
      | refine RQ.still (by exact Still.any) rfl ?_
      | refine RQ.yes rfl rfl ?_
      | refine RQ.no rfl rfl rfl rfl ?_
      | refine RQ.noUndef rfl rfl rfl ?_
      | refine Run.seq ?_
      | refine Run.region ?_
      | (refine RO.split ?_ ?_ <;> intro hc <;> try (first | (exfalso; omega) | exact absurd rfl hc | exact Bool.noConfusion hc))
      | refine RO.nil ?_
      | refine RO.still (by exact Still.any) hS rfl ?_
      | (apply RO.op; apply OP.box hS; rfl; rfl; rfl; clear hS; intro b w1 hS)
      | (apply RO.op; apply OP.alloc hS; rfl; rfl; rfl; clear hS; intro b w1 hS)
      | (apply RO.op; apply OP.store hS; rfl; rfl; rfl; rfl; rfl; (focus ((repeat (first | apply Has.head | apply Take.head | apply Put.head | apply Has.tail | apply Take.tail | apply Put.tail)); done)); rfl; rfl; clear hS; intro w1 hS)
      | (apply RO.op; apply OP.buildSlice hS; rfl; rfl; (exact eqAuto); rfl; rfl; rfl; rfl; rfl; clear hS; intro b w1 hS)
      | (apply RO.op; apply OP.makeMap hS; rfl; clear hS; intro b w1 hS)
      | refine RO.yes rfl rfl ?_
      | refine RO.no rfl rfl rfl rfl ?_
      | refine RO.noUndef rfl rfl rfl ?_
      | refine RO.noNone rfl rfl rfl ?_
      | refine Run.cond_true rfl ?_
      | refine Run.cond_false rfl ?_
      | refine Run.skip ?_
      | refine Run.block ?_
      | refine Run.inBlock ?_
      | refine Run.exit rfl ?_
    refine Run.weaken (by focus ((repeat (first | exact .nil | refine .cons rfl ?_)); done)) (ih (i + 1) _ ⟨by omega, hS.picks (by focus ((repeat (first | apply Picks.all | apply Picks.nil | (refine Picks.cons (by repeat (first | apply Take.head | apply Take.tail)) ?_) | apply Picks.drop)); done))⟩ (by omega))
  · obtain rfl : i = L.length := by omega
    repeat' first
      | refine Run.seq ?_
      | refine Run.region ?_
      | (refine RO.split ?_ ?_ <;> intro hc <;> try (first | (exfalso; omega) | exact absurd rfl hc | exact Bool.noConfusion hc))
      | refine RO.nil ?_
      | refine RO.still (by exact Still.any) hS rfl ?_
      | (apply RO.op; apply OP.box hS; rfl; rfl; rfl; clear hS; intro b w1 hS)
      | (apply RO.op; apply OP.alloc hS; rfl; rfl; rfl; clear hS; intro b w1 hS)
      | (apply RO.op; apply OP.store hS; rfl; rfl; rfl; rfl; rfl; (focus ((repeat (first | apply Has.head | apply Take.head | apply Put.head | apply Has.tail | apply Take.tail | apply Put.tail)); done)); rfl; rfl; clear hS; intro w1 hS)
      | (apply RO.op; apply OP.buildSlice hS; rfl; rfl; (exact eqAuto); rfl; rfl; rfl; rfl; rfl; clear hS; intro b w1 hS)
      | (apply RO.op; apply OP.makeMap hS; rfl; clear hS; intro b w1 hS)
      | refine RO.yes rfl rfl ?_
      | refine RO.no rfl rfl rfl rfl ?_
      | refine RO.noUndef rfl rfl rfl ?_
      | refine RO.noNone rfl rfl rfl ?_
      | refine Run.cond_true rfl ?_
      | refine Run.cond_false rfl ?_
      | refine Run.skip ?_
      | refine Run.block ?_
      | refine Run.inBlock ?_
      | refine Run.exit rfl ?_
    refine Run.ret Try.func18 rfl (.tmp rfl .nil) ?_
    exact ⟨rfl, (ra_shut (r := r) (cap := cap) (spare := spare) rfl g g2 g3 g4 (hS.take (by focus ((repeat (first | apply Has.head | apply Take.head | apply Put.head | apply Has.tail | apply Take.tail | apply Put.tail)); done)))).picks (by focus ((repeat (first | apply Picks.all | apply Picks.nil | (refine Picks.cons (by repeat (first | apply Take.head | apply Take.tail)) ?_) | apply Picks.drop)); done))⟩
end
end Go.Proofs.Ythejfodjielahaa
