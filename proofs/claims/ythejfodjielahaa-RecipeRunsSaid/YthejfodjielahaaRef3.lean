/-
  The document's answer for the layer of terms: a new arena, making, sharing.
-/
import Derived.Test.YthejfodjielahaaRef2
import Derived.Test.YthejfodjielahaaGrow
namespace Go.Proofs.Ythejfodjielahaa
set_option maxRecDepth 8000
set_option linter.unusedSimpArgs false
set_option linter.unusedVariables false
open Go Go.RowKit

/-- The document's arena, with the row of its terms. -/
def RA (a : Value) (lim : Nat) (L : List Nd) : HP :=
  HP.ex fun x : Nat × Nat × List Value => HP.pure (a = raV lim x.1 L.length x.2.1 ∧ Good lim L ∧ L.length ≤ x.2.1 ∧ x.2.1 ≤ maxLen ∧ x.2.2.length = (x.2.1 - L.length) * 5) (Row x.1 (flat L ++ x.2.2) 78)

section
variable {we w : World} {ρ : List (Nat × Obj)} {σ F : List HP} {lim r cap : Nat} {L : List Nd} {spare : List Value} {a : Value}

theorem ra_open (h : St we ρ (RA a lim L :: F) w) : ∃ r cap spare, a = raV lim r L.length cap ∧ Good lim L ∧ L.length ≤ cap ∧ cap ≤ maxLen ∧ spare.length = (cap - L.length) * 5 ∧ St we ρ (Row r (flat L ++ spare) 78 :: F) w := by
  obtain ⟨⟨r, cap, spare⟩, h⟩ := St.ex h
  obtain ⟨⟨h1, h2, h3, h4, h5⟩, h⟩ := St.pure h
  exact ⟨r, cap, spare, h1, h2, h3, h4, h5, h⟩
theorem ra_shut (h1 : a = raV lim r L.length cap) (h2 : Good lim L) (h3 : L.length ≤ cap) (h4 : cap ≤ maxLen) (h5 : spare.length = (cap - L.length) * 5) (h : St we ρ (Row r (flat L ++ spare) 78 :: F) w) : St we ρ (RA a lim L :: F) w :=
  St.ex_mk (r, cap, spare) (St.pure_mk ⟨h1, h2, h3, h4, h5⟩ h)
attribute [irreducible] RA

theorem refNew {limit : Int} (hS : St we ρ σ w) : Cl Try.prog 32 [.int .i64 limit] w fun v w' => St we ρ (RA v (room limit) [Nd.z] :: σ) w' := by
  refine Run.calls1 (n := 11) Try.func32 rfl rfl rfl ?_
  repeat' first
    | refine Run.seq ?_
    | refine Run.region ?_
    | (refine RO.split ?_ ?_ <;> intro hc <;> try (first | (exfalso; omega) | exact absurd rfl hc | exact Bool.noConfusion hc))
    | refine RO.nil ?_
    | refine RO.still (by exact Still.any) hS rfl ?_
    | (apply RO.op; apply OP.box hS; rfl; rfl; rfl; clear hS; intro b w1 hS)
    | (apply RO.op; apply OP.alloc hS; rfl; rfl; rfl; clear hS; intro b w1 hS)
    | (apply RO.op; apply OP.store hS; rfl; rfl; rfl; rfl; rfl; (focus ((repeat (first | apply Has.head | apply Take.head | apply Put.head | apply Has.tail | apply Take.tail | apply Put.tail)); done)); rfl; rfl; clear hS; intro w1 hS)
    | (apply RO.op; apply OP.buildSlice hS; rfl; rfl; (exact eqAuto); rfl; rfl; rfl; rfl; rfl; clear hS; intro b w1 hS)
    | (apply RO.op; apply OP.makeMap hS; rfl; clear hS; intro b w1 hS)
    | refine RO.yes rfl rfl ?_
    | refine RO.no rfl rfl rfl rfl ?_
    | refine RO.noUndef rfl rfl rfl ?_
    | refine RO.noNone rfl rfl rfl ?_
    | refine Run.cond_true rfl ?_
    | refine Run.cond_false rfl ?_
    | refine Run.skip ?_
    | refine Run.block ?_
    | refine Run.inBlock ?_
    | refine Run.exit rfl ?_
  all_goals
    refine Run.ret Try.func32 rfl (.cell rfl (by first | exact run_loadAgg rfl rfl (hS.rd (by exact Rd.any)) (by rfl) (by rfl) | exact run_loadScalar rfl (cell_of (hS.rd (by exact Rd.any)) (by rfl))) .nil) ?_
    refine ra_shut (r := b) (cap := 1) (spare := []) ?_ (room_good limit) (by simp) (by unfold maxLen; omega) (by simp) (hS.picks (by focus ((repeat (first | apply Picks.all | apply Picks.nil | (refine Picks.cons (by repeat (first | apply Take.head | apply Take.tail)) ?_) | apply Picks.drop)); done)))
    have key : ∀ c : Int, c = room limit → (Value.agg #[.int .i64 c, .slice (some ⟨b, 0, none⟩) 1 1]) = raV (room limit) b [Nd.z].length 1 := by rintro c rfl; rfl
    exact key _ (by unfold room; omega)

set_option maxHeartbeats 2000000 in
theorem refMkS {n : Nd} (hS : St we ρ (RA a lim L :: F) w) : Cl Try.prog 33 [a, ndV n] w fun v w' => ∃ a', v = .tuple #[a', .int .i64 (mk lim L n).2.1, .int .i64 (mk lim L n).2.2] ∧ ((mk lim L n).2.2 ≠ 0 → a' = a) ∧ St we ρ (RA a' lim (mk lim L n).1 :: F) w' := by
  obtain ⟨r, cap, spare, rfl, g, g2, g3, g4, hS⟩ := ra_open hS
  refine Run.calls2 (n := 49) Try.func33 rfl rfl rfl ?_
  repeat' first
    | (apply RO.op; apply OP.callF; rfl; rfl; rfl; exact refRight g hS (by exact Rd.any); clear hS; rintro v w1 ⟨rfl, hS⟩; refine RO.splitB ?_ ?_ <;> intro hb)
    | refine Run.seq ?_
    | refine Run.region ?_
    | (refine RO.split ?_ ?_ <;> intro hc <;> try (first | (exfalso; omega) | exact absurd rfl hc | exact Bool.noConfusion hc))
    | refine RO.nil ?_
    | refine RO.still (by exact Still.any) hS rfl ?_
    | (apply RO.op; apply OP.box hS; rfl; rfl; rfl; clear hS; intro b w1 hS)
    | (apply RO.op; apply OP.alloc hS; rfl; rfl; rfl; clear hS; intro b w1 hS)
    | (apply RO.op; apply OP.store hS; rfl; rfl; rfl; rfl; rfl; (focus ((repeat (first | apply Has.head | apply Take.head | apply Put.head | apply Has.tail | apply Take.tail | apply Put.tail)); done)); rfl; rfl; clear hS; intro w1 hS)
    | (apply RO.op; apply OP.buildSlice hS; rfl; rfl; (exact eqAuto); rfl; rfl; rfl; rfl; rfl; clear hS; intro b w1 hS)
    | (apply RO.op; apply OP.makeMap hS; rfl; clear hS; intro b w1 hS)
    | refine RO.yes rfl rfl ?_
    | refine RO.no rfl rfl rfl rfl ?_
    | refine RO.noUndef rfl rfl rfl ?_
    | refine RO.noNone rfl rfl rfl ?_
    | refine Run.cond_true rfl ?_
    | refine Run.cond_false rfl ?_
    | refine Run.skip ?_
    | refine Run.block ?_
    | refine Run.inBlock ?_
    | refine Run.exit rfl ?_
  rotate_left
  · have hmk : mk lim L n = (L, 0, 1) := by simp [mk, hb]
    refine Run.ret Try.func33 rfl (.cell rfl (by first | exact run_loadAgg rfl rfl (hS.rd (by exact Rd.any)) (by rfl) (by rfl) | exact run_loadScalar rfl (cell_of (hS.rd (by exact Rd.any)) (by rfl))) (.tmp rfl (.tmp rfl .nil))) ?_
    rw [hmk]
    exact ⟨_, rfl, (by first | exact fun _ => rfl | exact fun h => absurd rfl h), ra_shut (r := r) (cap := cap) (spare := spare) rfl g g2 g3 g4 (hS.picks (by focus ((repeat (first | apply Picks.all | apply Picks.nil | (refine Picks.cons (by repeat (first | apply Take.head | apply Take.tail)) ?_) | apply Picks.drop)); done)))⟩
  rename_i ba _ bn _ _
  rename Nat => bc
  refine Run.while (fun i : Nat => [(0, raV lim r L.length cap), (1, ndV n), (2, .pointer (some ⟨ba, 0, none⟩)), (3, .pointer (some ⟨bn, 0, none⟩)), (4, .pointer (some ⟨bc, 0, none⟩)), (5, .int .i64 0), (6, .int .i64 0), (7, .int .i64 i)])
    (fun i w => i ≤ L.length ∧ find L n = findAt (L.drop i) n i ∧ St we ρ (Row bc [.int .i64 0, .slice none 0 0] 29 :: Row bn (ndL n) 78 ::
      Row ba [.int .i64 lim, .slice (some ⟨r, 0, none⟩) L.length cap] 29 :: Row r (flat L ++ spare) 78 :: F) w) (fun i => L.length - i) 0 ⟨by omega, rfl, hS⟩ (by focus ((repeat (first | exact .nil | refine .cons rfl ?_)); done)) ?_
  clear hS
  rintro i w ⟨hi, hf, hS⟩ ih
  have hlim := g.lim
  have hlen := g.len
  by_cases hlt : i < L.length
  · have hih : has L (i : Int) = true := has_of hlt
    have hd : L.drop i = L[i] :: L.drop (i + 1) := List.drop_eq_getElem_cons hlt
    have hnd := nd_nat hlt
    repeat' first
      | (refine Run.regionQ_of hS (by rfl) (by kernel_rfl) ?_; clear hS)
      | (refine RQ.still (by apply Still.eqlNd (a := nd L i) (b := n) nodeT2; rfl; rfl) rfl ?_)
      | (refine RQ.split ?_ ?_ <;> intro hc <;> try (first | (exfalso; omega) | exact absurd rfl hc | exact Bool.noConfusion hc))
      | (refine RQ.nil ?_; (try clear hS); intro w1 hS)
      | refine RQ.still (by exact Still.any) rfl ?_
      | refine RQ.yes rfl rfl ?_
      | refine RQ.no rfl rfl rfl rfl ?_
      | refine RQ.noUndef rfl rfl rfl ?_
      | refine Run.seq ?_
      | refine Run.region ?_
      | (refine RO.split ?_ ?_ <;> intro hc <;> try (first | (exfalso; omega) | exact absurd rfl hc | exact Bool.noConfusion hc))
      | refine RO.nil ?_
      | refine RO.still (by exact Still.any) hS rfl ?_
      | (apply RO.op; apply OP.box hS; rfl; rfl; rfl; clear hS; intro b w1 hS)
      | (apply RO.op; apply OP.alloc hS; rfl; rfl; rfl; clear hS; intro b w1 hS)
      | (apply RO.op; apply OP.store hS; rfl; rfl; rfl; rfl; rfl; (focus ((repeat (first | apply Has.head | apply Take.head | apply Put.head | apply Has.tail | apply Take.tail | apply Put.tail)); done)); rfl; rfl; clear hS; intro w1 hS)
      | (apply RO.op; apply OP.buildSlice hS; rfl; rfl; (exact eqAuto); rfl; rfl; rfl; rfl; rfl; clear hS; intro b w1 hS)
      | (apply RO.op; apply OP.makeMap hS; rfl; clear hS; intro b w1 hS)
      | refine RO.yes rfl rfl ?_
      | refine RO.no rfl rfl rfl rfl ?_
      | refine RO.noUndef rfl rfl rfl ?_
      | refine RO.noNone rfl rfl rfl ?_
      | refine Run.cond_true rfl ?_
      | refine Run.cond_false rfl ?_
      | refine Run.skip ?_
      | refine Run.block ?_
      | refine Run.inBlock ?_
      | refine Run.exit rfl ?_
    · have hc' : n = L[i] := by rw [← hnd]; exact (by assumption : nd L i = n).symm
      have hfi : find L n = some i := by rw [hf, hd, findAt, if_pos hc']
      have hmk : mk lim L n = (L, (i : Int), 0) := by simp [mk, hb, hfi]
      refine Run.ret Try.func33 rfl (.cell rfl (by first | exact run_loadAgg rfl rfl (hS.rd (by exact Rd.any)) (by rfl) (by rfl) | exact run_loadScalar rfl (cell_of (hS.rd (by exact Rd.any)) (by rfl))) (.tmp rfl (.tmp rfl .nil))) ?_
      rw [hmk]
      exact ⟨_, rfl, (by first | exact fun _ => rfl | exact fun h => absurd rfl h), ra_shut (r := r) (cap := cap) (spare := spare) rfl g g2 g3 g4 (hS.picks (by focus ((repeat (first | apply Picks.all | apply Picks.nil | (refine Picks.cons (by repeat (first | apply Take.head | apply Take.tail)) ?_) | apply Picks.drop)); done)))⟩
    · refine Run.weaken (e' := [(0, raV lim r L.length cap), (1, ndV n), (2, .pointer (some ⟨ba, 0, none⟩)), (3, .pointer (some ⟨bn, 0, none⟩)), (4, .pointer (some ⟨bc, 0, none⟩)), (5, .int .i64 0), (6, .int .i64 0), (7, .int .i64 ((i + 1 : Nat) : Int))]) (by focus ((repeat (first | exact .nil | refine .cons rfl ?_)); done)) (ih (i + 1) _ ⟨by omega, ?_, hS⟩ (by omega))
      have hc' : ¬ n = L[i] := by rw [← hnd]; exact fun h => (by assumption : ¬ nd L i = n) h.symm
      rw [hf, hd, findAt, if_neg hc']
  · obtain rfl : i = L.length := by omega
    have hfn : find L n = none := by rw [hf, List.drop_length]; rfl
    repeat' first
      | refine Run.seq ?_
      | refine Run.region ?_
      | (refine RO.split ?_ ?_ <;> intro hc <;> try (first | (exfalso; omega) | exact absurd rfl hc | exact Bool.noConfusion hc))
      | refine RO.nil ?_
      | refine RO.still (by exact Still.any) hS rfl ?_
      | (apply RO.op; apply OP.box hS; rfl; rfl; rfl; clear hS; intro b w1 hS)
      | (apply RO.op; apply OP.alloc hS; rfl; rfl; rfl; clear hS; intro b w1 hS)
      | (apply RO.op; apply OP.store hS; rfl; rfl; rfl; rfl; rfl; (focus ((repeat (first | apply Has.head | apply Take.head | apply Put.head | apply Has.tail | apply Take.tail | apply Put.tail)); done)); rfl; rfl; clear hS; intro w1 hS)
      | (apply RO.op; apply OP.buildSlice hS; rfl; rfl; (exact eqAuto); rfl; rfl; rfl; rfl; rfl; clear hS; intro b w1 hS)
      | (apply RO.op; apply OP.makeMap hS; rfl; clear hS; intro b w1 hS)
      | refine RO.yes rfl rfl ?_
      | refine RO.no rfl rfl rfl rfl ?_
      | refine RO.noUndef rfl rfl rfl ?_
      | refine RO.noNone rfl rfl rfl ?_
      | refine Run.cond_true rfl ?_
      | refine Run.cond_false rfl ?_
      | refine Run.skip ?_
      | refine Run.block ?_
      | refine Run.inBlock ?_
      | refine Run.exit rfl ?_
    · have hmk : mk lim L n = (L, 0, 3) := by simp [mk, hb, hfn, show lim ≤ L.length by omega]
      refine Run.ret Try.func33 rfl (.cell rfl (by first | exact run_loadAgg rfl rfl (hS.rd (by exact Rd.any)) (by rfl) (by rfl) | exact run_loadScalar rfl (cell_of (hS.rd (by exact Rd.any)) (by rfl))) (.tmp rfl (.tmp rfl .nil))) ?_
      rw [hmk]
      exact ⟨_, rfl, (by first | exact fun _ => rfl | exact fun h => absurd rfl h), ra_shut (r := r) (cap := cap) (spare := spare) rfl g g2 g3 g4 (hS.picks (by focus ((repeat (first | apply Picks.all | apply Picks.nil | (refine Picks.cons (by repeat (first | apply Take.head | apply Take.tail)) ?_) | apply Picks.drop)); done)))⟩
    have hll : L.length < lim := by omega
    have hmk : mk lim L n = (L ++ [n], (L.length : Int), 0) := by simp [mk, hb, hfn, show ¬ lim ≤ L.length by omega]
    rw [hmk]
    have hpos := g.wf.pos
    have el1 : (L ++ [n]).length = L.length + 1 := by simp
    refine (Run.regionH_cut (fun x : Nat × Nat => Row bc [.int .i64 0, .slice none 0 0] 29 :: Row ba [.int .i64 lim, .slice (some ⟨x.1, 0, none⟩) (L ++ [n]).length x.2] 29 ::
        RA (raV lim x.1 (L ++ [n]).length x.2) lim (L ++ [n]) :: F)
      (fun _ => [(2, .pointer (some ⟨ba, 0, none⟩)), (4, .pointer (some ⟨bc, 0, none⟩)), (5, .int .i64 0), (6, .int .i64 0)]) hS (.cons_cons _ (.cons_cons _ (.cons _ (List.Sublist.refl _)))) (by rfl) (by rfl) (by rfl) ?_ ?_)
    · clear hS
      intro w1 hS
      repeat' first
        | (apply RH.take (i := 1) (listed := #[false, false, false, false, false, false, false, false, false]) (listed' := #[false, true, false, false, false, false, false, false, false]); rfl; kernel_rfl; rfl; (apply Still.fieldAddr; rfl; (exact eqAuto)); (first | exact hS | exact hS.tail | exact hS.sublist (by repeat (first | exact List.Sublist.refl _ | refine .cons_cons _ ?_ | refine .cons _ ?_))); rfl)
        | (apply RH.take (i := 4) (listed := #[false, true, false, false, false, false, false, false, false]) (listed' := #[false, true, false, false, true, false, false, false, false]); rfl; kernel_rfl; rfl; (first | (apply Still.load; rfl; rfl; (exact Rd.any); (first | rfl | exact flat_get0 (by assumption) | exact flat_get1 (by assumption) | exact flat_get2 (by assumption) | exact flat_get3 (by assumption) | exact flat_get4 (by assumption))) | (apply Still.loadAgg; rfl; rfl; (exact eqAuto); (exact Rd.any); (first | exact flat_take (by assumption) | rfl); rfl)); (first | exact hS | exact hS.tail | exact hS.sublist (by repeat (first | exact List.Sublist.refl _ | refine .cons_cons _ ?_ | refine .cons _ ?_))); rfl)
        | (apply RH.all3 (i1 := 0) (i2 := 2) (i3 := 5) (listed := #[false, true, false, false, true, false, false, false, false]); kernel_rfl)
        | (apply RI.op (i := 0) (listed := #[false, true, false, false, true, false, false, false, false]) (listed' := #[true, true, false, false, true, false, false, false, false]); rfl; rfl)
        | (apply RI.op (i := 2) (listed := #[false, true, false, false, true, false, false, false, false]) (listed' := #[false, true, true, false, true, false, false, false, false]); rfl; rfl)
        | (apply RI.op (i := 5) (listed := #[false, true, false, false, true, false, false, false, false]) (listed' := #[false, true, false, false, true, true, false, false, false]); rfl; rfl)
        | (apply RH.all2 (i1 := 2) (i2 := 5) (listed := #[true, true, false, false, true, false, false, false, false]); kernel_rfl)
        | (apply RI.op (i := 2) (listed := #[true, true, false, false, true, false, false, false, false]) (listed' := #[true, true, true, false, true, false, false, false, false]); rfl; rfl)
        | (apply RI.op (i := 5) (listed := #[true, true, false, false, true, false, false, false, false]) (listed' := #[true, true, false, false, true, true, false, false, false]); rfl; rfl)
        | (apply RH.all2 (i1 := 3) (i2 := 5) (listed := #[true, true, true, false, true, false, false, false, false]); kernel_rfl)
        | (apply RI.op (i := 3) (listed := #[true, true, true, false, true, false, false, false, false]) (listed' := #[true, true, true, true, true, false, false, false, false]); rfl; rfl)
        | (apply RI.op (i := 5) (listed := #[true, true, true, false, true, false, false, false, false]) (listed' := #[true, true, true, false, true, true, false, false, false]); rfl; rfl)
        | (apply RH.all1 (i := 5) (listed := #[true, true, true, true, true, false, false, false, false]); kernel_rfl)
        | (apply RI.op (i := 5) (listed := #[true, true, true, true, true, false, false, false, false]) (listed' := #[true, true, true, true, true, true, false, false, false]); rfl; rfl)
        | (apply RH.all1 (i := 6) (listed := #[true, true, true, true, true, true, false, false, false]); kernel_rfl)
        | (apply RI.op (i := 6) (listed := #[true, true, true, true, true, true, false, false, false]) (listed' := #[true, true, true, true, true, true, true, false, false]); rfl; rfl)
        | (apply RH.take (i := 7) (listed := #[true, true, true, true, true, true, true, false, false]) (listed' := #[true, true, true, true, true, true, true, true, false]); rfl; kernel_rfl; rfl; (apply Still.fieldAddr; rfl; (exact eqAuto)); (first | exact hS | exact hS.tail | exact hS.sublist (by repeat (first | exact List.Sublist.refl _ | refine .cons_cons _ ?_ | refine .cons _ ?_))); rfl)
        | (apply RH.all1 (i := 8) (listed := #[true, true, true, true, true, true, true, true, false]); kernel_rfl)
        | (apply RI.op (i := 8) (listed := #[true, true, true, true, true, true, true, true, false]) (listed' := #[true, true, true, true, true, true, true, true, true]); rfl; rfl)
        | (apply RH.done (listed := #[true, true, true, true, true, true, true, true, true]); kernel_rfl)
        | (apply RH.all1 (i := 3) (listed := #[true, true, true, false, true, true, false, false, false]); kernel_rfl)
        | (apply RI.op (i := 3) (listed := #[true, true, true, false, true, true, false, false, false]) (listed' := #[true, true, true, true, true, true, false, false, false]); rfl; rfl)
        | (apply RH.all1 (i := 2) (listed := #[true, true, false, false, true, true, false, false, false]); kernel_rfl)
        | (apply RI.op (i := 2) (listed := #[true, true, false, false, true, true, false, false, false]) (listed' := #[true, true, true, false, true, true, false, false, false]); rfl; rfl)
        | (apply RH.all2 (i1 := 0) (i2 := 5) (listed := #[false, true, true, false, true, false, false, false, false]); kernel_rfl)
        | (apply RI.op (i := 0) (listed := #[false, true, true, false, true, false, false, false, false]) (listed' := #[true, true, true, false, true, false, false, false, false]); rfl; rfl)
        | (apply RI.op (i := 5) (listed := #[false, true, true, false, true, false, false, false, false]) (listed' := #[false, true, true, false, true, true, false, false, false]); rfl; rfl)
        | (apply RH.all1 (i := 0) (listed := #[false, true, true, false, true, true, false, false, false]); kernel_rfl)
        | (apply RI.op (i := 0) (listed := #[false, true, true, false, true, true, false, false, false]) (listed' := #[true, true, true, false, true, true, false, false, false]); rfl; rfl)
        | (apply RH.all2 (i1 := 0) (i2 := 2) (listed := #[false, true, false, false, true, true, false, false, false]); kernel_rfl)
        | (apply RI.op (i := 0) (listed := #[false, true, false, false, true, true, false, false, false]) (listed' := #[true, true, false, false, true, true, false, false, false]); rfl; rfl)
        | (apply RI.op (i := 2) (listed := #[false, true, false, false, true, true, false, false, false]) (listed' := #[false, true, true, false, true, true, false, false, false]); rfl; rfl)
        | (apply OP.appendRow (size := 5) (bytes := 40) (k := L.length) (s := L.length) (ys := flat L) (news := flat L) (xs := []) hS; rfl; rfl; rfl; rfl; rfl; rfl; rfl; rfl; exact (by omega); (focus ((repeat (first | apply Has.head | apply Take.head | apply Put.head | apply Has.tail | apply Take.tail | apply Put.tail)); done)); (exact Rd.any)
           (exact (Nat.le_refl _)); (exact (by unfold maxLen; omega)); rfl; rfl; (exact (by rw [List.drop_zero, Nat.mul_comm, ← flat_length]; exact List.take_left)); (exact (by rw [flat_length]; omega)); exact flat_one
           exact Nat.zero_add _; exact List.nil_append _; exact hpos; (exact (by unfold maxLen; omega)); (exact (by omega)); rfl
           clear hS; intro g' cap' spare' w1 k1 k2 k3 hS
           refine ⟨(by first | exact hS | exact hS.tail | exact hS.sublist (by repeat (first | exact List.Sublist.refl _ | refine .cons_cons _ ?_ | refine .cons _ ?_))), ?_⟩)
        | (apply OP.appendRow (size := 5) (bytes := 40) (k := 1) (s := (L ++ [n]).length) (ys := flat (L ++ [n])) (news := ndL n) (xs := flat L) hS; rfl; rfl; rfl; rfl; rfl; rfl; rfl; rfl; exact (by omega); (focus ((repeat (first | apply Has.head | apply Take.head | apply Put.head | apply Has.tail | apply Take.tail | apply Put.tail)); done)); (exact Rd.any)
           (exact k1); (exact k2); (exact (by rw [List.length_append, flat_length, k3]; omega)); (exact (by rw [Nat.mul_comm, ← flat_length]; exact List.take_left)); rfl; rfl; exact ndL_one
           exact el1.symm; exact flat_snoc.symm; (exact (by omega)); (exact (by unfold maxLen; omega)); (exact (by omega)); rfl
           clear hS k1 k2 k3; intro g' cap' spare' w1 k1 k2 k3 hS
           refine ⟨(by first | exact hS | exact hS.tail | exact hS.sublist (by repeat (first | exact List.Sublist.refl _ | refine .cons_cons _ ?_ | refine .cons _ ?_))), ?_⟩)
        | (refine RH.split ?_ ?_ <;> intro hc <;> try (first | (exfalso; omega) | exact absurd rfl hc | exact Bool.noConfusion hc))
        | (apply OP.box hS; rfl; rfl; rfl; clear hS; intro b w1 hS; refine ⟨(by first | exact hS | exact hS.tail | exact hS.sublist (by repeat (first | exact List.Sublist.refl _ | refine .cons_cons _ ?_ | refine .cons _ ?_))), ?_⟩)
        | (apply OP.alloc hS; rfl; rfl; rfl; clear hS; intro b w1 hS; refine ⟨(by first | exact hS | exact hS.tail | exact hS.sublist (by repeat (first | exact List.Sublist.refl _ | refine .cons_cons _ ?_ | refine .cons _ ?_))), ?_⟩)
        | (apply OP.store hS; rfl; rfl; rfl; rfl; rfl; (focus ((repeat (first | apply Has.head | apply Take.head | apply Put.head | apply Has.tail | apply Take.tail | apply Put.tail)); done)); rfl; rfl; clear hS; intro w1 hS; refine ⟨(by first | exact hS | exact hS.tail | exact hS.sublist (by repeat (first | exact List.Sublist.refl _ | refine .cons_cons _ ?_ | refine .cons _ ?_))), ?_⟩)
        | (apply OP.buildSlice hS; rfl; rfl; (exact eqAuto); rfl; rfl; rfl; rfl; rfl; clear hS; intro b w1 hS; refine ⟨(by first | exact hS | exact hS.tail | exact hS.sublist (by repeat (first | exact List.Sublist.refl _ | refine .cons_cons _ ?_ | refine .cons _ ?_))), ?_⟩)
        | (apply OP.makeMap hS; rfl; clear hS; intro b w1 hS; refine ⟨(by first | exact hS | exact hS.tail | exact hS.sublist (by repeat (first | exact List.Sublist.refl _ | refine .cons_cons _ ?_ | refine .cons _ ?_))), ?_⟩)
        | (refine OP.still (by exact Still.any) hS rfl ⟨(by first | exact hS | exact hS.tail | exact hS.sublist (by repeat (first | exact List.Sublist.refl _ | refine .cons_cons _ ?_ | refine .cons _ ?_))), ?_⟩)
      all_goals
        have hS2 := ra_shut (a := raV lim g' (L ++ [n]).length cap') (r := g') (cap := cap') (spare := spare') rfl (g.snoc hb hfn hll) k1 k2 k3 (hS.take (by focus ((repeat (first | apply Has.head | apply Take.head | apply Put.head | apply Has.tail | apply Take.tail | apply Put.tail)); done)))
        exact ⟨(g', cap'), (by focus ((repeat (first | exact .nil | refine .cons rfl ?_)); done)), hS2.picks (by focus ((repeat (first | apply Picks.all | apply Picks.nil | (refine Picks.cons (by repeat (first | apply Take.head | apply Take.tail)) ?_) | apply Picks.drop)); done))⟩
    · clear hS
      rintro ⟨r', c'⟩ w1 hS
      repeat (refine Run.seq ?_)
      refine Run.regionH_of hS (.cons _ (List.Sublist.refl _)) (by rfl) (by rfl) (by rfl) ?_
      clear hS
      intro w1 hS
      repeat' first
        | (apply RH.take (i := 0) (listed := #[false, false, false, false, false, false, false, false]) (listed' := #[true, false, false, false, false, false, false, false]); rfl; kernel_rfl; rfl; (first | (apply Still.load; rfl; rfl; (exact Rd.any); (first | rfl | exact flat_get0 (by assumption) | exact flat_get1 (by assumption) | exact flat_get2 (by assumption) | exact flat_get3 (by assumption) | exact flat_get4 (by assumption))) | (apply Still.loadAgg; rfl; rfl; (exact eqAuto); (exact Rd.any); (first | exact flat_take (by assumption) | rfl); rfl)); (first | exact hS | exact hS.tail | exact hS.sublist (by repeat (first | exact List.Sublist.refl _ | refine .cons_cons _ ?_ | refine .cons _ ?_))); rfl)
        | (apply RH.take (i := 1) (listed := #[true, false, false, false, false, false, false, false]) (listed' := #[true, true, false, false, false, false, false, false]); rfl; kernel_rfl; rfl; (apply Still.fieldAddr; rfl; (exact eqAuto)); (first | exact hS | exact hS.tail | exact hS.sublist (by repeat (first | exact List.Sublist.refl _ | refine .cons_cons _ ?_ | refine .cons _ ?_))); rfl)
        | (apply RH.take (i := 2) (listed := #[true, true, false, false, false, false, false, false]) (listed' := #[true, true, true, false, false, false, false, false]); rfl; kernel_rfl; rfl; (first | (apply Still.load; rfl; rfl; (exact Rd.any); (first | rfl | exact flat_get0 (by assumption) | exact flat_get1 (by assumption) | exact flat_get2 (by assumption) | exact flat_get3 (by assumption) | exact flat_get4 (by assumption))) | (apply Still.loadAgg; rfl; rfl; (exact eqAuto); (exact Rd.any); (first | exact flat_take (by assumption) | rfl); rfl)); (first | exact hS | exact hS.tail | exact hS.sublist (by repeat (first | exact List.Sublist.refl _ | refine .cons_cons _ ?_ | refine .cons _ ?_))); rfl)
        | (apply RH.take (i := 3) (listed := #[true, true, true, false, false, false, false, false]) (listed' := #[true, true, true, true, false, false, false, false]); rfl; kernel_rfl; rfl; (exact Still.any); (first | exact hS | exact hS.tail | exact hS.sublist (by repeat (first | exact List.Sublist.refl _ | refine .cons_cons _ ?_ | refine .cons _ ?_))); rfl)
        | (apply RH.take (i := 4) (listed := #[true, true, true, true, false, false, false, false]) (listed' := #[true, true, true, true, true, false, false, false]); rfl; kernel_rfl; rfl; (apply Still.sub; rfl; rfl; (first | exact wrap_i64 (by omega) (by omega) | exact wrap_u64 (by omega) (by omega) | rfl)); (first | exact hS | exact hS.tail | exact hS.sublist (by repeat (first | exact List.Sublist.refl _ | refine .cons_cons _ ?_ | refine .cons _ ?_))); rfl)
        | (apply RH.all1 (i := 5) (listed := #[true, true, true, true, true, false, false, false]); kernel_rfl)
        | (apply RI.op (i := 5) (listed := #[true, true, true, true, true, false, false, false]) (listed' := #[true, true, true, true, true, true, false, false]); rfl; rfl)
        | (apply RH.take (i := 6) (listed := #[true, true, true, true, true, true, false, false]) (listed' := #[true, true, true, true, true, true, true, false]); rfl; kernel_rfl; rfl; (apply Still.assign; rfl); (first | exact hS | exact hS.tail | exact hS.sublist (by repeat (first | exact List.Sublist.refl _ | refine .cons_cons _ ?_ | refine .cons _ ?_))); rfl)
        | (apply RH.take (i := 7) (listed := #[true, true, true, true, true, true, true, false]) (listed' := #[true, true, true, true, true, true, true, true]); rfl; kernel_rfl; rfl; (apply Still.assign; rfl); (first | exact hS | exact hS.tail | exact hS.sublist (by repeat (first | exact List.Sublist.refl _ | refine .cons_cons _ ?_ | refine .cons _ ?_))); rfl)
        | (apply RH.done (listed := #[true, true, true, true, true, true, true, true]); kernel_rfl)
        | (refine RH.split ?_ ?_ <;> intro hc <;> try (first | (exfalso; omega) | exact absurd rfl hc | exact Bool.noConfusion hc))
        | (apply OP.box hS; rfl; rfl; rfl; clear hS; intro b w1 hS; refine ⟨(by first | exact hS | exact hS.tail | exact hS.sublist (by repeat (first | exact List.Sublist.refl _ | refine .cons_cons _ ?_ | refine .cons _ ?_))), ?_⟩)
        | (apply OP.alloc hS; rfl; rfl; rfl; clear hS; intro b w1 hS; refine ⟨(by first | exact hS | exact hS.tail | exact hS.sublist (by repeat (first | exact List.Sublist.refl _ | refine .cons_cons _ ?_ | refine .cons _ ?_))), ?_⟩)
        | (apply OP.store hS; rfl; rfl; rfl; rfl; rfl; (focus ((repeat (first | apply Has.head | apply Take.head | apply Put.head | apply Has.tail | apply Take.tail | apply Put.tail)); done)); rfl; rfl; clear hS; intro w1 hS; refine ⟨(by first | exact hS | exact hS.tail | exact hS.sublist (by repeat (first | exact List.Sublist.refl _ | refine .cons_cons _ ?_ | refine .cons _ ?_))), ?_⟩)
        | (apply OP.buildSlice hS; rfl; rfl; (exact eqAuto); rfl; rfl; rfl; rfl; rfl; clear hS; intro b w1 hS; refine ⟨(by first | exact hS | exact hS.tail | exact hS.sublist (by repeat (first | exact List.Sublist.refl _ | refine .cons_cons _ ?_ | refine .cons _ ?_))), ?_⟩)
        | (apply OP.makeMap hS; rfl; clear hS; intro b w1 hS; refine ⟨(by first | exact hS | exact hS.tail | exact hS.sublist (by repeat (first | exact List.Sublist.refl _ | refine .cons_cons _ ?_ | refine .cons _ ?_))), ?_⟩)
        | (refine OP.still (by exact Still.any) hS rfl ⟨(by first | exact hS | exact hS.tail | exact hS.sublist (by repeat (first | exact List.Sublist.refl _ | refine .cons_cons _ ?_ | refine .cons _ ?_))), ?_⟩)
      all_goals
        repeat' first
          | refine Run.seq ?_
          | refine Run.region ?_
          | (refine RO.split ?_ ?_ <;> intro hc <;> try (first | (exfalso; omega) | exact absurd rfl hc | exact Bool.noConfusion hc))
          | refine RO.nil ?_
          | refine RO.still (by exact Still.any) hS rfl ?_
          | (apply RO.op; apply OP.box hS; rfl; rfl; rfl; clear hS; intro b w1 hS)
          | (apply RO.op; apply OP.alloc hS; rfl; rfl; rfl; clear hS; intro b w1 hS)
          | (apply RO.op; apply OP.store hS; rfl; rfl; rfl; rfl; rfl; (focus ((repeat (first | apply Has.head | apply Take.head | apply Put.head | apply Has.tail | apply Take.tail | apply Put.tail)); done)); rfl; rfl; clear hS; intro w1 hS)
          | (apply RO.op; apply OP.buildSlice hS; rfl; rfl; (exact eqAuto); rfl; rfl; rfl; rfl; rfl; clear hS; intro b w1 hS)
          | (apply RO.op; apply OP.makeMap hS; rfl; clear hS; intro b w1 hS)
          | refine RO.yes rfl rfl ?_
          | refine RO.no rfl rfl rfl rfl ?_
          | refine RO.noUndef rfl rfl rfl ?_
          | refine RO.noNone rfl rfl rfl ?_
          | refine Run.cond_true rfl ?_
          | refine Run.cond_false rfl ?_
          | refine Run.skip ?_
          | refine Run.block ?_
          | refine Run.inBlock ?_
          | refine Run.exit rfl ?_
        refine Run.ret Try.func33 rfl (.cell rfl (by first | exact run_loadAgg rfl rfl (hS.rd (by exact Rd.any)) (by rfl) (by rfl) | exact run_loadScalar rfl (cell_of (hS.rd (by exact Rd.any)) (by rfl))) (.tmp rfl (.tmp rfl .nil))) ?_
        refine ⟨raV lim r' (L ++ [n]).length c', ?_, (fun h => absurd rfl h), hS.picks (by focus ((repeat (first | apply Picks.all | apply Picks.nil | (refine Picks.cons (by repeat (first | apply Take.head | apply Take.tail)) ?_) | apply Picks.drop)); done))⟩
        simp [tup]
        rfl

theorem refMk {n : Nd} (hS : St we ρ (RA a lim L :: F) w) : Cl Try.prog 33 [a, ndV n] w fun v w' => ∃ a', v = .tuple #[a', .int .i64 (mk lim L n).2.1, .int .i64 (mk lim L n).2.2] ∧ St we ρ (RA a' lim (mk lim L n).1 :: F) w' :=
  (refMkS hS).mono fun v w' ⟨a', h1, _, h2⟩ => ⟨a', h1, h2⟩

set_option maxHeartbeats 1000000 in
theorem refShare {x y : Int} (hS : St we ρ (RA a lim L :: F) w) : Cl Try.prog 44 [a, .int .i64 x, .int .i64 y] w fun v w' => ∃ a', v = .tuple #[a', .int .i64 (share lim L x y).2.1, .int .i64 (share lim L x y).2.2] ∧ St we ρ (RA a' lim (share lim L x y).1 :: F) w' := by
  obtain ⟨r, cap, spare, rfl, g, g2, g3, g4, hS⟩ := ra_open hS
  refine Run.calls3 (n := 63) Try.func44 rfl rfl rfl ?_
  have hx' : has L x = true → 0 ≤ x ∧ x < L.length := has_iff.1
  have hy' : has L y = true → 0 ≤ y ∧ y < L.length := has_iff.1
  repeat' first
    | (apply RO.op; apply OP.callF; rfl; rfl; rfl; exact refHas hS; clear hS; rintro v w1 ⟨rfl, hS⟩; refine RO.splitB ?_ ?_ <;> intro hb)
    | refine Run.seq ?_
    | refine Run.region ?_
    | (refine RO.split ?_ ?_ <;> intro hc <;> try (first | (exfalso; omega) | exact absurd rfl hc | exact Bool.noConfusion hc))
    | refine RO.nil ?_
    | refine RO.still (by exact Still.any) hS rfl ?_
    | (apply RO.op; apply OP.box hS; rfl; rfl; rfl; clear hS; intro b w1 hS)
    | (apply RO.op; apply OP.alloc hS; rfl; rfl; rfl; clear hS; intro b w1 hS)
    | (apply RO.op; apply OP.store hS; rfl; rfl; rfl; rfl; rfl; (focus ((repeat (first | apply Has.head | apply Take.head | apply Put.head | apply Has.tail | apply Take.tail | apply Put.tail)); done)); rfl; rfl; clear hS; intro w1 hS)
    | (apply RO.op; apply OP.buildSlice hS; rfl; rfl; (exact eqAuto); rfl; rfl; rfl; rfl; rfl; clear hS; intro b w1 hS)
    | (apply RO.op; apply OP.makeMap hS; rfl; clear hS; intro b w1 hS)
    | refine RO.yes rfl rfl ?_
    | refine RO.no rfl rfl rfl rfl ?_
    | refine RO.noUndef rfl rfl rfl ?_
    | refine RO.noNone rfl rfl rfl ?_
    | refine Run.cond_true rfl ?_
    | refine Run.cond_false rfl ?_
    | refine Run.skip ?_
    | refine Run.block ?_
    | refine Run.inBlock ?_
    | refine Run.exit rfl ?_
  all_goals first
    | (have hsh : share lim L x y = (L, 0, 1) := by
         unfold share
         rw [if_neg (by simp_all)]
       refine Run.ret Try.func44 rfl (.cell rfl (by first | exact run_loadAgg rfl rfl (hS.rd (by exact Rd.any)) (by rfl) (by rfl) | exact run_loadScalar rfl (cell_of (hS.rd (by exact Rd.any)) (by rfl))) (.tmp rfl (.tmp rfl .nil))) ?_
       rw [hsh]
       exact ⟨_, rfl, ra_shut (r := r) (cap := cap) (spare := spare) rfl g g2 g3 g4 (hS.picks (by focus ((repeat (first | apply Picks.all | apply Picks.nil | (refine Picks.cons (by repeat (first | apply Take.head | apply Take.tail)) ?_) | apply Picks.drop)); done)))⟩)
    | skip
  have hx : has L x = true := by assumption
  have hy : has L y = true := by assumption
  have hx2 := hx' hx
  have hy2 := hy' hy
  repeat' first
    | (apply RO.op; apply OP.callF; rfl; rfl; rfl; exact refCompare g hS (by exact Rd.any); clear hS; rintro v w1 ⟨rfl, hS⟩)
    | (apply RO.op; apply OP.callF; rfl; rfl; rfl; exact refMk (n := ⟨4, 0, x, y, 0⟩) (ra_shut (r := r) (cap := cap) (spare := spare) rfl g g2 g3 g4 (hS.take (by focus ((repeat (first | apply Has.head | apply Take.head | apply Put.head | apply Has.tail | apply Take.tail | apply Put.tail)); done)))); clear hS; rintro v w1 ⟨a', rfl, hS⟩; obtain ⟨r2, cap2, spare2, rfl, f1, f2, f3, f4, hS⟩ := ra_open hS)
    | (apply RO.op; apply OP.callF; rfl; rfl; rfl; exact refMk (n := ⟨3, 0, x, (nd L y).a, 0⟩) (ra_shut (r := r) (cap := cap) (spare := spare) rfl g g2 g3 g4 (hS.take (by focus ((repeat (first | apply Has.head | apply Take.head | apply Put.head | apply Has.tail | apply Take.tail | apply Put.tail)); done)))); clear hS; rintro v w1 ⟨a', rfl, hS⟩; obtain ⟨r2, cap2, spare2, rfl, f1, f2, f3, f4, hS⟩ := ra_open hS)
    | (apply RO.op; apply OP.callF; rfl; rfl; rfl; exact refMk (n := ⟨3, 0, (nd L y).a, x, 0⟩) (ra_shut (r := r) (cap := cap) (spare := spare) rfl g g2 g3 g4 (hS.take (by focus ((repeat (first | apply Has.head | apply Take.head | apply Put.head | apply Has.tail | apply Take.tail | apply Put.tail)); done)))); clear hS; rintro v w1 ⟨a', rfl, hS⟩; obtain ⟨r2, cap2, spare2, rfl, f1, f2, f3, f4, hS⟩ := ra_open hS)
    | refine Run.seq ?_
    | refine Run.region ?_
    | (refine RO.split ?_ ?_ <;> intro hc <;> try (first | (exfalso; omega) | exact absurd rfl hc | exact Bool.noConfusion hc))
    | refine RO.nil ?_
    | refine RO.still (by exact Still.any) hS rfl ?_
    | (apply RO.op; apply OP.box hS; rfl; rfl; rfl; clear hS; intro b w1 hS)
    | (apply RO.op; apply OP.alloc hS; rfl; rfl; rfl; clear hS; intro b w1 hS)
    | (apply RO.op; apply OP.store hS; rfl; rfl; rfl; rfl; rfl; (focus ((repeat (first | apply Has.head | apply Take.head | apply Put.head | apply Has.tail | apply Take.tail | apply Put.tail)); done)); rfl; rfl; clear hS; intro w1 hS)
    | (apply RO.op; apply OP.buildSlice hS; rfl; rfl; (exact eqAuto); rfl; rfl; rfl; rfl; rfl; clear hS; intro b w1 hS)
    | (apply RO.op; apply OP.makeMap hS; rfl; clear hS; intro b w1 hS)
    | refine RO.yes rfl rfl ?_
    | refine RO.no rfl rfl rfl rfl ?_
    | refine RO.noUndef rfl rfl rfl ?_
    | refine RO.noNone rfl rfl rfl ?_
    | refine Run.cond_true rfl ?_
    | refine Run.cond_false rfl ?_
    | refine Run.skip ?_
    | refine Run.block ?_
    | refine Run.inBlock ?_
    | refine Run.exit rfl ?_
  · have hsh : share lim L x y = mk lim L ⟨4, 0, x, y, 0⟩ := by unfold share; rw [if_pos ⟨hx, hy⟩, if_pos (by assumption)]
    refine Run.ret Try.func44 rfl (.cell rfl (by first | exact run_loadAgg rfl rfl (hS.rd (by exact Rd.any)) (by rfl) (by rfl) | exact run_loadScalar rfl (cell_of (hS.rd (by exact Rd.any)) (by rfl))) (.tmp rfl (.tmp rfl .nil))) ?_
    rw [hsh]
    exact ⟨_, rfl, ra_shut (r := r2) (cap := cap2) (spare := spare2) rfl f1 f2 f3 f4 (hS.picks (by focus ((repeat (first | apply Picks.all | apply Picks.nil | (refine Picks.cons (by repeat (first | apply Take.head | apply Take.tail)) ?_) | apply Picks.drop)); done)))⟩
  · have hsh : share lim L x y = mk lim L ⟨3, 0, x, (nd L y).a, 0⟩ := by unfold share; rw [if_pos ⟨hx, hy⟩, if_neg (by omega), if_neg (by omega)]
    refine Run.ret Try.func44 rfl (.cell rfl (by first | exact run_loadAgg rfl rfl (hS.rd (by exact Rd.any)) (by rfl) (by rfl) | exact run_loadScalar rfl (cell_of (hS.rd (by exact Rd.any)) (by rfl))) (.tmp rfl (.tmp rfl .nil))) ?_
    rw [hsh]
    exact ⟨_, rfl, ra_shut (r := r2) (cap := cap2) (spare := spare2) rfl f1 f2 f3 f4 (hS.picks (by focus ((repeat (first | apply Picks.all | apply Picks.nil | (refine Picks.cons (by repeat (first | apply Take.head | apply Take.tail)) ?_) | apply Picks.drop)); done)))⟩
  · have hsh : share lim L x y = mk lim L ⟨3, 0, (nd L y).a, x, 0⟩ := by unfold share; rw [if_pos ⟨hx, hy⟩, if_neg (by omega), if_pos (by omega)]
    refine Run.ret Try.func44 rfl (.cell rfl (by first | exact run_loadAgg rfl rfl (hS.rd (by exact Rd.any)) (by rfl) (by rfl) | exact run_loadScalar rfl (cell_of (hS.rd (by exact Rd.any)) (by rfl))) (.tmp rfl (.tmp rfl .nil))) ?_
    rw [hsh]
    exact ⟨_, rfl, ra_shut (r := r2) (cap := cap2) (spare := spare2) rfl f1 f2 f3 f4 (hS.picks (by focus ((repeat (first | apply Picks.all | apply Picks.nil | (refine Picks.cons (by repeat (first | apply Take.head | apply Take.tail)) ?_) | apply Picks.drop)); done)))⟩
end
end Go.Proofs.Ythejfodjielahaa
