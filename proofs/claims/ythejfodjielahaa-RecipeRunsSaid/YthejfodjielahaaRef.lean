/-
  The document's answer for the layer of terms: undertoneref01, walked.
-/
import Derived.Test.YthejfodjielahaaNew
namespace Go.Proofs.Ythejfodjielahaa
set_option maxRecDepth 8000
set_option linter.unusedSimpArgs false
set_option linter.unusedVariables false
open Go Go.RowKit

/-- The document's arena, as a value. -/
abbrev raV (lim r : Nat) (n cap : Nat) : Value := .agg #[.int .i64 lim, .slice (some ⟨r, 0, none⟩) n cap]

section
variable {we w : World} {ρ : List (Nat × Obj)} {σ F : List HP} {lim r cap : Nat} {L : List Nd} {spare : List Value}

theorem refHas {x : Int} (hS : St we ρ σ w) : Cl Try.prog 53 [raV lim r L.length cap, .int .i64 x] w fun v w' => v = .bool (has L x) ∧ St we ρ σ w' := by
  refine Run.calls2 (n := 14) Try.func53 rfl rfl rfl ?_
  repeat' first
    | refine Run.seq ?_
    | refine Run.region ?_
    | (refine RO.split ?_ ?_ <;> intro hc <;> try (first | (exfalso; omega) | exact absurd rfl hc | exact Bool.noConfusion hc))
    | refine RO.nil ?_
    | refine RO.still (by exact Still.any) hS rfl ?_
    | (apply RO.op; apply OP.box hS; rfl; rfl; rfl; clear hS; intro b w1 hS)
    | (apply RO.op; apply OP.alloc hS; rfl; rfl; rfl; clear hS; intro b w1 hS)
    | (apply RO.op; apply OP.store hS; rfl; rfl; rfl; rfl; rfl; (focus ((repeat (first | apply Has.head | apply Take.head | apply Put.head | apply Has.tail | apply Take.tail | apply Put.tail)); done)); rfl; rfl; clear hS; intro w1 hS)
    | (apply RO.op; apply OP.buildSlice hS; rfl; rfl; (exact eqAuto); rfl; rfl; rfl; rfl; rfl; clear hS; intro b w1 hS)
    | (apply RO.op; apply OP.makeMap hS; rfl; clear hS; intro b w1 hS)
    | refine RO.yes rfl rfl ?_
    | refine RO.no rfl rfl rfl rfl ?_
    | refine RO.noUndef rfl rfl rfl ?_
    | refine RO.noNone rfl rfl rfl ?_
    | refine Run.cond_true rfl ?_
    | refine Run.cond_false rfl ?_
    | refine Run.skip ?_
    | refine Run.block ?_
    | refine Run.inBlock ?_
    | refine Run.exit rfl ?_
  all_goals
    refine Run.ret Try.func53 rfl (.tmp rfl .nil) ?_
    refine ⟨?_, hS.sublist (by (repeat (first | exact List.Sublist.refl _ | refine .cons_cons _ ?_ | refine .cons _ ?_)))⟩
    simp only [tup, has]
    congr 1
    simp
    omega

theorem refPart {n : Nd} {k : Int} (hS : St we ρ σ w) : Cl Try.prog 60 [ndV n, .int .i64 k] w fun v w' => v = .int .i64 (if k = 0 then n.a else if k = 1 then n.b else n.c) ∧ St we ρ σ w' := by
  refine Run.calls2 (n := 15) Try.func60 rfl rfl rfl ?_
  repeat' first
    | refine Run.seq ?_
    | refine Run.region ?_
    | (refine RO.split ?_ ?_ <;> intro hc <;> try (first | (exfalso; omega) | exact absurd rfl hc | exact Bool.noConfusion hc))
    | refine RO.nil ?_
    | refine RO.still (by exact Still.any) hS rfl ?_
    | (apply RO.op; apply OP.box hS; rfl; rfl; rfl; clear hS; intro b w1 hS)
    | (apply RO.op; apply OP.alloc hS; rfl; rfl; rfl; clear hS; intro b w1 hS)
    | (apply RO.op; apply OP.store hS; rfl; rfl; rfl; rfl; rfl; (focus ((repeat (first | apply Has.head | apply Take.head | apply Put.head | apply Has.tail | apply Take.tail | apply Put.tail)); done)); rfl; rfl; clear hS; intro w1 hS)
    | (apply RO.op; apply OP.buildSlice hS; rfl; rfl; (exact eqAuto); rfl; rfl; rfl; rfl; rfl; clear hS; intro b w1 hS)
    | (apply RO.op; apply OP.makeMap hS; rfl; clear hS; intro b w1 hS)
    | refine RO.yes rfl rfl ?_
    | refine RO.no rfl rfl rfl rfl ?_
    | refine RO.noUndef rfl rfl rfl ?_
    | refine RO.noNone rfl rfl rfl ?_
    | refine Run.cond_true rfl ?_
    | refine Run.cond_false rfl ?_
    | refine Run.skip ?_
    | refine Run.block ?_
    | refine Run.inBlock ?_
    | refine Run.exit rfl ?_
  all_goals
    refine Run.ret Try.func60 rfl (.tmp rfl .nil) ?_
    refine ⟨?_, hS.sublist (by (repeat (first | exact List.Sublist.refl _ | refine .cons_cons _ ?_ | refine .cons _ ?_)))⟩
    simp_all [tup]
theorem refPart0 {n : Nd} (hS : St we ρ σ w) : Cl Try.prog 60 [ndV n, .int .i64 0] w fun v w' => v = .int .i64 n.a ∧ St we ρ σ w' := refPart (k := 0) hS
theorem refPart1 {n : Nd} (hS : St we ρ σ w) : Cl Try.prog 60 [ndV n, .int .i64 1] w fun v w' => v = .int .i64 n.b ∧ St we ρ σ w' := refPart (k := 1) hS
theorem refPart2 {n : Nd} (hS : St we ρ σ w) : Cl Try.prog 60 [ndV n, .int .i64 2] w fun v w' => v = .int .i64 n.c ∧ St we ρ σ w' := refPart (k := 2) hS

theorem refMany {k : Int} (hS : St we ρ σ w) : Cl Try.prog 59 [.int .i64 k] w fun v w' => v = .int .i64 (if 0 ≤ k ∧ k ≤ 9 then many k else -1) ∧ St we ρ σ w' := by
  refine Run.calls1 (n := 18) Try.func59 rfl rfl rfl ?_
  repeat' first
    | refine Run.seq ?_
    | refine Run.region ?_
    | (refine RO.split ?_ ?_ <;> intro hc <;> try (first | (exfalso; omega) | exact absurd rfl hc | exact Bool.noConfusion hc))
    | refine RO.nil ?_
    | refine RO.still (by exact Still.any) hS rfl ?_
    | (apply RO.op; apply OP.box hS; rfl; rfl; rfl; clear hS; intro b w1 hS)
    | (apply RO.op; apply OP.alloc hS; rfl; rfl; rfl; clear hS; intro b w1 hS)
    | (apply RO.op; apply OP.store hS; rfl; rfl; rfl; rfl; rfl; (focus ((repeat (first | apply Has.head | apply Take.head | apply Put.head | apply Has.tail | apply Take.tail | apply Put.tail)); done)); rfl; rfl; clear hS; intro w1 hS)
    | (apply RO.op; apply OP.buildSlice hS; rfl; rfl; (exact eqAuto); rfl; rfl; rfl; rfl; rfl; clear hS; intro b w1 hS)
    | (apply RO.op; apply OP.makeMap hS; rfl; clear hS; intro b w1 hS)
    | refine RO.yes rfl rfl ?_
    | refine RO.no rfl rfl rfl rfl ?_
    | refine RO.noUndef rfl rfl rfl ?_
    | refine RO.noNone rfl rfl rfl ?_
    | refine Run.cond_true rfl ?_
    | refine Run.cond_false rfl ?_
    | refine Run.skip ?_
    | refine Run.block ?_
    | refine Run.inBlock ?_
    | refine Run.exit rfl ?_
  all_goals
    refine Run.ret Try.func59 rfl (.tmp rfl .nil) ?_
    refine ⟨?_, hS⟩
    simp only [tup, many]
    congr 1
    repeat' split
    all_goals first | rfl | omega

theorem oneNd {n : Nd} (hS : St we ρ σ w) : Cl Try.prog 28 [ndV n] w fun v w' => v = ndV n ∧ St we ρ σ w' := by
  refine Run.calls1 (n := 14) Try.func28 rfl rfl rfl ?_
  repeat' first
    | refine Run.seq ?_
    | refine Run.region ?_
    | (refine RO.split ?_ ?_ <;> intro hc <;> try (first | (exfalso; omega) | exact absurd rfl hc | exact Bool.noConfusion hc))
    | refine RO.nil ?_
    | refine RO.still (by exact Still.any) hS rfl ?_
    | (apply RO.op; apply OP.box hS; rfl; rfl; rfl; clear hS; intro b w1 hS)
    | (apply RO.op; apply OP.alloc hS; rfl; rfl; rfl; clear hS; intro b w1 hS)
    | (apply RO.op; apply OP.store hS; rfl; rfl; rfl; rfl; rfl; (focus ((repeat (first | apply Has.head | apply Take.head | apply Put.head | apply Has.tail | apply Take.tail | apply Put.tail)); done)); rfl; rfl; clear hS; intro w1 hS)
    | (apply RO.op; apply OP.buildSlice hS; rfl; rfl; (exact eqAuto); rfl; rfl; rfl; rfl; rfl; clear hS; intro b w1 hS)
    | (apply RO.op; apply OP.makeMap hS; rfl; clear hS; intro b w1 hS)
    | refine RO.yes rfl rfl ?_
    | refine RO.no rfl rfl rfl rfl ?_
    | refine RO.noUndef rfl rfl rfl ?_
    | refine RO.noNone rfl rfl rfl ?_
    | refine Run.cond_true rfl ?_
    | refine Run.cond_false rfl ?_
    | refine Run.skip ?_
    | refine Run.block ?_
    | refine Run.inBlock ?_
    | refine Run.exit rfl ?_
  refine Run.ret Try.func28 rfl (.cell rfl (by first | exact run_loadAgg rfl rfl (hS.rd (by exact Rd.any)) (by rfl) (by rfl) | exact run_loadScalar rfl (cell_of (hS.rd (by exact Rd.any)) (by rfl))) .nil) ?_
  exact ⟨rfl, hS.sublist (by (repeat (first | exact List.Sublist.refl _ | refine .cons_cons _ ?_ | refine .cons _ ?_)))⟩

set_option maxHeartbeats 2000000 in
theorem refCompare_any (g : Good lim L) (m : Nat) : ∀ {σ : List HP} {x y : Int} {w : World}, 1 ≤ m → (has L x = true → x < m) → (has L y = true → y < m) → St we ρ σ w → Rd ρ σ r (.cells (flat L ++ spare).toArray 78 (0, 0)) →
    Cl Try.prog 54 [raV lim r L.length cap, .int .i64 x, .int .i64 y] w fun v w' => v = .int .i64 (cmp L x y) ∧ St we ρ σ w' := by
  have hw := g.wf
  induction m with
  | zero => intro σ x y w h; omega
  | succ m ih =>
    intro σ x y w _ hxm hym hS hr
    refine Run.calls3 (n := 83) Try.func54 rfl rfl rfl ?_
    have hx' : has L x = true → 0 ≤ x ∧ x < L.length := has_iff.1
    have hy' : has L y = true → 0 ≤ y ∧ y < L.length := has_iff.1
    have hir : ∀ {b : Nat} {l : List Value} {t : TypeId}, Rd ρ (Row b l t :: σ) r (.cells (flat L ++ spare).toArray 78 (0, 0)) := hr.tail
    repeat' first
      | (apply RO.op; apply OP.callF; rfl; rfl; rfl; exact refHas hS; clear hS; rintro v w1 ⟨rfl, hS⟩; refine RO.splitB ?_ ?_ <;> intro hb)
      | refine Run.seq ?_
      | refine Run.region ?_
      | (refine RO.split ?_ ?_ <;> intro hc <;> try (first | (exfalso; omega) | exact absurd rfl hc | exact Bool.noConfusion hc))
      | refine RO.nil ?_
      | refine RO.still (by exact Still.any) hS rfl ?_
      | (apply RO.op; apply OP.box hS; rfl; rfl; rfl; clear hS; intro b w1 hS)
      | (apply RO.op; apply OP.alloc hS; rfl; rfl; rfl; clear hS; intro b w1 hS)
      | (apply RO.op; apply OP.store hS; rfl; rfl; rfl; rfl; rfl; (focus ((repeat (first | apply Has.head | apply Take.head | apply Put.head | apply Has.tail | apply Take.tail | apply Put.tail)); done)); rfl; rfl; clear hS; intro w1 hS)
      | (apply RO.op; apply OP.buildSlice hS; rfl; rfl; (exact eqAuto); rfl; rfl; rfl; rfl; rfl; clear hS; intro b w1 hS)
      | (apply RO.op; apply OP.makeMap hS; rfl; clear hS; intro b w1 hS)
      | refine RO.yes rfl rfl ?_
      | refine RO.no rfl rfl rfl rfl ?_
      | refine RO.noUndef rfl rfl rfl ?_
      | refine RO.noNone rfl rfl rfl ?_
      | refine Run.cond_true rfl ?_
      | refine Run.cond_false rfl ?_
      | refine Run.skip ?_
      | refine Run.block ?_
      | refine Run.inBlock ?_
      | refine Run.exit rfl ?_
    all_goals first
      | (refine Run.ret Try.func54 rfl (.tmp rfl .nil) ?_
         refine ⟨?_, hS.sublist (by (repeat (first | exact List.Sublist.refl _ | refine .cons_cons _ ?_ | refine .cons _ ?_)))⟩
         rw [cmp_eq hw]
         simp only [tup]
         congr 1
         first
           | (simp_all [sgn]; done)
           | (simp_all [sgn]; omega))
      | skip
    have hx2 := hx' (by assumption)
    have hy2 := hy' (by assumption)
    have hxm' := hxm (by assumption)
    have hym' := hym (by assumption)
    have hx : has L x = true := by assumption
    have hy : has L y = true := by assumption
    have hm1 : 1 ≤ m := by omega
    have small : ∀ a : Int, has L a = true → a < ((m + 1 : Nat) : Int) → (nd L a).a < m ∧ (nd L a).b < m ∧ (nd L a).c < m := fun a ha hm => by
      have h0 := has_iff.1 ha
      by_cases z : a = 0
      · subst z; rw [hw.zero]; simp [Nd.z]; omega
      · have h1 := hw.pa a (by omega) h0.2; have h2 := hw.pb a (by omega) h0.2; have h3 := hw.pc a (by omega) h0.2
        omega
    have bx := small x hx hxm'
    have byy := small y hy hym'
    clear small
    repeat' first
      | (refine Run.regionQ_of hS (by rfl) (by kernel_rfl) ?_; clear hS)
      | (apply RQ.callF; rfl; rfl; rfl; exact fun w hS => refPart0 hS)
      | (apply RQ.callF; rfl; rfl; rfl; exact fun w hS => refPart1 hS)
      | (apply RQ.callF; rfl; rfl; rfl; exact fun w hS => refPart2 hS)
      | (apply RQ.callF; rfl; rfl; rfl; exact fun w hS => ih hm1 (fun _ => by omega) (fun _ => by omega) hS (by exact Rd.any))
      | refine Run.loop ?_
      | refine Run.inLoop ?_
      | (refine RQ.split ?_ ?_ <;> intro hc <;> try (first | (exfalso; omega) | exact absurd rfl hc | exact Bool.noConfusion hc))
      | (refine RQ.nil ?_; (try clear hS); intro w1 hS)
      | refine RQ.still (by exact Still.any) rfl ?_
      | refine RQ.yes rfl rfl ?_
      | refine RQ.no rfl rfl rfl rfl ?_
      | refine RQ.noUndef rfl rfl rfl ?_
      | refine Run.seq ?_
      | refine Run.region ?_
      | (refine RO.split ?_ ?_ <;> intro hc <;> try (first | (exfalso; omega) | exact absurd rfl hc | exact Bool.noConfusion hc))
      | refine RO.nil ?_
      | refine RO.still (by exact Still.any) hS rfl ?_
      | (apply RO.op; apply OP.box hS; rfl; rfl; rfl; clear hS; intro b w1 hS)
      | (apply RO.op; apply OP.alloc hS; rfl; rfl; rfl; clear hS; intro b w1 hS)
      | (apply RO.op; apply OP.store hS; rfl; rfl; rfl; rfl; rfl; (focus ((repeat (first | apply Has.head | apply Take.head | apply Put.head | apply Has.tail | apply Take.tail | apply Put.tail)); done)); rfl; rfl; clear hS; intro w1 hS)
      | (apply RO.op; apply OP.buildSlice hS; rfl; rfl; (exact eqAuto); rfl; rfl; rfl; rfl; rfl; clear hS; intro b w1 hS)
      | (apply RO.op; apply OP.makeMap hS; rfl; clear hS; intro b w1 hS)
      | refine RO.yes rfl rfl ?_
      | refine RO.no rfl rfl rfl rfl ?_
      | refine RO.noUndef rfl rfl rfl ?_
      | refine RO.noNone rfl rfl rfl ?_
      | refine Run.cond_true rfl ?_
      | refine Run.cond_false rfl ?_
      | refine Run.skip ?_
      | refine Run.block ?_
      | refine Run.inBlock ?_
      | refine Run.exit rfl ?_
    all_goals
      refine Run.ret Try.func54 rfl (.tmp rfl .nil) ?_
      refine ⟨?_, hS.sublist (by (repeat (first | exact List.Sublist.refl _ | refine .cons_cons _ ?_ | refine .cons _ ?_)))⟩
      rw [cmp_eq hw x y, if_neg (by assumption), if_pos ⟨hx, hy⟩]
      simp only [tup]
      congr 1
      first
        | (simp_all [lx, sgn]; done)
        | (simp_all [lx, sgn]; (repeat' split) <;> omega)

theorem refCompare {x y : Int} (g : Good lim L) (hS : St we ρ σ w) (hr : Rd ρ σ r (.cells (flat L ++ spare).toArray 78 (0, 0))) :
    Cl Try.prog 54 [raV lim r L.length cap, .int .i64 x, .int .i64 y] w fun v w' => v = .int .i64 (cmp L x y) ∧ St we ρ σ w' :=
  refCompare_any g L.length g.wf.pos (fun h => (has_iff.1 h).2) (fun h => (has_iff.1 h).2) hS hr
end
end Go.Proofs.Ythejfodjielahaa
