/-
  The laws' helpers for the layer of recipes: kitchen, awake.
-/
import Derived.Test.YthejfodjielahaaRecipe5
namespace Go.Proofs.Ythejfodjielahaa
set_option maxRecDepth 8000
set_option linter.unusedSimpArgs false
set_option linter.unusedVariables false
open Go Go.RowKit

theorem learnAll_snoc (L : List Nd) (l : List Int) (x : Int) (K : Int → Bool) : learnAll L (l ++ [x]) K = if has L x = true then cl L (ins (learnAll L l K) x) else learnAll L l K := by
  unfold learnAll; rw [List.foldl_append]; rfl
theorem learnAll_has {lim : Nat} {L : List Nd} (g : Good lim L) {K : Int → Bool} (hh : ∀ y, K y = true → has L y = true) (l : List Int) : ∀ y, learnAll L l K y = true → has L y = true := by
  induction l generalizing K with
  | nil => exact hh
  | cons x l ih =>
    unfold learnAll
    rw [List.foldl_cons]
    refine ih (K := if has L x = true then cl L (ins K x) else K) (fun y hy => ?_)
    by_cases hx : has L x = true
    · rw [if_pos hx] at hy
      exact cl_has g (ins_has hh hx) hy
    · rw [if_neg hx] at hy; exact hh y hy
theorem filter_snoc {p : Int → Bool} {l : List Int} {i : Nat} (h : i < l.length) : (l.take (i + 1)).filter p = (l.take i).filter p ++ if p l[i] = true then [l[i]] else [] := by
  rw [List.take_succ_eq_append_getElem h, List.filter_append]
  cases hp : p l[i] <;> simp [hp]

def rw04 : Nat → List Nd
  | 0 => [Nd.z]
  | 1 => [Nd.z, ⟨1, 1, 0, 0, 0⟩]
  | 2 => [Nd.z, ⟨1, 1, 0, 0, 0⟩, ⟨2, 0, 1, 0, 0⟩]
  | _ => [Nd.z, ⟨1, 1, 0, 0, 0⟩, ⟨2, 0, 1, 0, 0⟩, ⟨1, 4294967296, 0, 0, 0⟩, ⟨3, 0, 1, 3, 0⟩]
theorem rwk1 : mk 20 (rw04 0) ⟨1, 1, 0, 0, 0⟩ = (rw04 1, 1, 0) := by kernel_rfl
theorem rwk2 : mk 20 (rw04 1) ⟨2, 0, 1, 0, 0⟩ = (rw04 2, 2, 0) := by kernel_rfl
def rwSteps : List Stp := [⟨1, 0, 0, 0, 0⟩, ⟨0, 0, 0, 0, 0⟩, ⟨3, 0, 0, 1, 0⟩]
theorem rwk_run : runS 20 [2] rwSteps (rw04 2) [] 0 = (rw04 3, [3, 2, 4], 0, 0) := by kernel_rfl
theorem rwk_cl : cl (rw04 2) (ins (fun _ => false) 2) = ins (fun _ => false) 2 := by
  refine cl_of_closed (closed_of fun z hz x hx => ?_)
  rcases ins_iff.1 hz with q | rfl
  · cases q
  · have hc : comesOf (rw04 2) (ins (fun _ => false) 2) 2 = [] := by kernel_rfl
    rw [hc] at hx; cases hx
theorem rwk_can : can (rw04 3) (ins (fun _ => false) 2) 4 = true := by kernel_rfl
theorem rwk_has : has (rw04 2) 2 = true := by kernel_rfl
theorem rwk_h0 : ∀ x, (fun _ : Int => false) x = true → has (rw04 2) x = true := by simp
theorem rwk_h1 : ∀ x, ins (fun _ => false) 2 x = true → has (rw04 3) x = true := by
  intro x hx
  rcases ins_iff.1 hx with q | rfl
  · cases q
  · kernel_rfl
theorem rwk_good : Good 20 (rw04 2) := by
  have := mk_good (mk_good (room_good 20) ⟨1, 1, 0, 0, 0⟩) ⟨2, 0, 1, 0, 0⟩
  have e : (mk (room 20) (mk (room 20) [Nd.z] ⟨1, 1, 0, 0, 0⟩).1 ⟨2, 0, 1, 0, 0⟩).1 = rw04 2 := by kernel_rfl
  rw [e] at this
  exact this
theorem rwk_nd : nd (rw04 3) 4 = ⟨3, 0, 1, 3, 0⟩ := by kernel_rfl
theorem rwk_has4 : has (rw04 3) 4 = true := by kernel_rfl

section
variable {we w : World} {ρ : List (Nat × Obj)} {σ F : List HP} {kb p lim cb : Nat} {L : List Nd} {K : Int → Bool} {v mv : Value} {heard made : List Int}

/-- A row of steps of one's own that is read alone. -/
theorem steps_sl {b n : Nat} {el : TypeId} {l : List Stp} (h1 : l.length = n) (h2 : n ≤ 1000) : Sl ((b, Obj.cells (l.flatMap stpL).toArray el (0, 0)) :: ρ) stpL 5 (.slice (some ⟨b, 0, none⟩) n n) l := by
  subst h1
  refine ⟨⟨some ⟨b, 0, none⟩, l.length, rfl, Nat.le_refl _, by unfold maxLen; omega, fun _ => ⟨b, 0, l.flatMap stpL, el, (0, 0), rfl, by simp, fun i hi => ?_⟩⟩⟩
  have := flatMap_at (g := stpL) (size := 5) (fun _ => rfl) l [] i hi
  rw [List.append_nil] at this
  rw [Nat.zero_add]
  exact this

theorem run_row {b n : Nat} {el : TypeId} {l : List Stp} (h1 : l.length = n) (h2 : n ≤ 1000) (g : Good lim L) (hq : ∀ s ∈ l, 0 ≤ s.n ∧ s.n ≤ 18446744073709551615) (hhl : heard.length ≤ 200000) (hhh : AllHas L heard)
    (hS : St we ρ (Row b (l.flatMap stpL) el :: KN kb p heard K :: Arena p lim L :: F) w) :
    Cl Try.prog 11 [.pointer (some ⟨p, 0, none⟩), .pointer (some ⟨kb, 0, none⟩), .slice (some ⟨b, 0, none⟩) n n] w fun v w' => ∃ mv, v = .tuple #[mv, .int .i64 (runS lim heard l L [] 0).2.2.1, .int .i64 (runS lim heard l L [] 0).2.2.2] ∧
      St we ρ (Vec 3 1 mv (runS lim heard l L [] 0).2.1.length ((runS lim heard l L [] 0).2.1.flatMap intL) :: KN kb p heard K :: Arena p lim (runS lim heard l L [] 0).1 :: F) w' := by
  have hsl := steps_sl (ρ := ρ) (b := b) (el := el) h1 h2
  exact (run_calls g hsl hq (by omega) hhl hhh hS.freeze).mono fun v w' ⟨mv, h, hS⟩ => ⟨mv, h, hS.ro_tail⟩

theorem vec_ints {el : TypeId} {l : List Int} {v : Value} (hne : l ≠ []) (h : St we ρ (Vec el 1 v l.length (l.flatMap intL) :: F) w) : ∃ g cap spare, v = .slice (some ⟨g, 0, none⟩) l.length cap ∧ St we ρ (Row g (l.flatMap intL ++ spare) el :: F) w := by
  obtain ⟨_, ⟨_, h0, _⟩ | ⟨g, cap, spare, rfl, _, _, _, hS⟩⟩ := vec_open h
  · exact absurd (List.eq_nil_of_length_eq_zero h0) hne
  · exact ⟨g, cap, spare, rfl, hS⟩

set_option maxHeartbeats 4000000 in
theorem rawake_calls (hS : St we ρ σ w) : Cl Try.prog 9 [] w fun v w' => v = .bool true ∧ St we ρ σ w' := by
  have hrun : ∀ {w : World} {b kb p : Nat} {el : TypeId} {G : List HP}, St we ρ (Row b (rwSteps.flatMap stpL) el :: KN kb p [2] (ins (fun _ => false) 2) :: Arena p 20 (rw04 2) :: G) w → _ := fun {w b kb p el G} hS =>
    run_row (w := w) (b := b) (kb := kb) (p := p) (el := el) (F := G) (n := 3) (l := rwSteps) rfl (by omega) rwk_good (by decide) (by decide) (fun x hx => by rw [List.mem_singleton.1 hx]; exact rwk_has) hS
  simp only [rwk_run] at hrun
  refine Run.calls0 (n := 85) Try.func9 rfl rfl ?_
  repeat' first
    | (apply RO.op; apply OP.callF; rfl; rfl; rfl; show Cl _ 14 _ _ _; exact new_calls hS; clear hS; rintro v w1 ⟨p, rfl, hS⟩; replace hS : St we ρ (Arena p 20 (rw04 0) :: σ) w1 := hS)
    | (apply RO.op; apply OP.callF; rfl; rfl; rfl; show Cl _ 20 _ _ _; (first | (apply mk_is rwk1; exact hS) | (apply mk_is rwk2; exact hS)); clear hS; rintro v w1 ⟨rfl, hS⟩)
    | (apply RO.op; apply OP.callF; rfl; rfl; rfl; show Cl _ 15 _ _ _; exact knew_calls hS; clear hS; rintro v w1 ⟨kb, rfl, hS⟩)
    | (apply RO.op; apply OP.callF; rfl; rfl; rfl; show Cl _ 21 _ _ _; exact learn_yes (x := 2) rwk_h0 (Nat.zero_le _) rwk_has (hS.take2 .head .head); clear hS; rintro v w1 ⟨rfl, hS⟩; rw [rwk_cl] at hS)
    | (apply RO.op; apply OP.callF; rfl; rfl; rfl; show Cl _ 11 _ _ _; exact hrun hS; clear hS; rintro v w1 ⟨mv, rfl, hS⟩; obtain ⟨g1, cap1, sp1, rfl, hT⟩ := vec_ints (l := [3, 2, 4]) (by simp) hS; clear hS; have hS := hT; clear hT)
    | (apply RO.op; apply OP.callF; rfl; rfl; rfl; show Cl _ 22 _ _ _; exact get_calls (x := 4) (hS.take (by focus ((repeat (first | apply Has.head | apply Take.head | apply Put.head | apply Has.tail | apply Take.tail | apply Put.tail)); done))); clear hS; rintro v w1 ⟨rfl, hS⟩; rw [rwk_nd, rwk_has4])
    | (apply RO.op; apply OP.callF; rfl; rfl; rfl; show Cl _ 12 _ _ _; exact kcan_is (x := 4) rwk_h1 rwk_can (hS.take2 (by focus ((repeat (first | apply Has.head | apply Take.head | apply Put.head | apply Has.tail | apply Take.tail | apply Put.tail)); done)) (by focus ((repeat (first | apply Has.head | apply Take.head | apply Put.head | apply Has.tail | apply Take.tail | apply Put.tail)); done))); clear hS; rintro v w1 ⟨rfl, hS⟩)
    | refine Run.seq ?_
    | refine Run.region ?_
    | (refine RO.split ?_ ?_ <;> intro hc <;> try (first | (exfalso; omega) | exact absurd rfl hc | exact Bool.noConfusion hc))
    | refine RO.nil ?_
    | refine RO.still (by exact Still.any) hS rfl ?_
    | (apply RO.op; apply OP.box hS; rfl; rfl; rfl; clear hS; intro b w1 hS)
    | (apply RO.op; apply OP.alloc hS; rfl; rfl; rfl; clear hS; intro b w1 hS)
    | (apply RO.op; apply OP.store hS; rfl; rfl; rfl; rfl; rfl; (focus ((repeat (first | apply Has.head | apply Take.head | apply Put.head | apply Has.tail | apply Take.tail | apply Put.tail)); done)); rfl; rfl; clear hS; intro w1 hS)
    | (apply RO.op; apply OP.buildSlice hS; rfl; rfl; (exact eqAuto); rfl; rfl; rfl; rfl; rfl; clear hS; intro b w1 hS)
    | (apply RO.op; apply OP.makeMap hS; rfl; clear hS; intro b w1 hS)
    | refine RO.yes rfl rfl ?_
    | refine RO.no rfl rfl rfl rfl ?_
    | refine RO.noUndef rfl rfl rfl ?_
    | refine RO.noNone rfl rfl rfl ?_
    | refine Run.cond_true rfl ?_
    | refine Run.cond_false rfl ?_
    | refine Run.skip ?_
    | refine Run.block ?_
    | refine Run.inBlock ?_
    | refine Run.exit rfl ?_
  all_goals
    refine Run.ret Try.func9 rfl (.tmp rfl .nil) ?_
    exact ⟨rfl, hS.picks (by focus ((repeat (first | apply Picks.all | apply Picks.nil | (refine Picks.cons (by repeat (first | apply Take.head | apply Take.tail)) ?_) | apply Picks.drop)); done))⟩

set_option maxHeartbeats 4000000 in
theorem kitchen_calls {limit : Int} {l : List Nd} {refs : List Int} {vl vr : Value} (hll : l.length ≤ 40) (hrl : refs.length ≤ 30) (hl : Nds ρ vl l) (hr : Sl ρ intL 1 vr refs) (hL : builtUp (room limit) l = L) (hK : learnAll L refs (fun _ => false) = K) (hS : St we ρ σ w) :
    Cl Try.prog 10 [.int .i64 limit, vl, vr] w fun v w' => ∃ kb p r c, v = .tuple #[.pointer (some ⟨p, 0, none⟩), raV (room limit) r L.length c, .pointer (some ⟨kb, 0, none⟩)] ∧
      St we ρ (KN kb p (refs.filter (has L)) K :: Arena p (room limit) L :: RA (raV (room limit) r L.length c) (room limit) L :: σ) w' := by
  obtain ⟨p1, c1, rfl, h1, h2, _⟩ := hr.val
  unfold maxLen at h2
  have g := builtUp_good (limit := limit) l
  rw [hL] at g
  have hh := learnAll_has g (K := fun _ => false) (by simp)
  have hlim := g.lim
  have hlen := g.len
  have hbuilt : ∀ {σ : List HP} {w : World}, St we ρ σ w → _ := fun {σ w} hS => built_calls (we := we) (ρ := ρ) (σ := σ) (w := w) (limit := limit) hll hl hS
  simp only [hL] at hbuilt
  refine Run.calls3 (n := 48) Try.func10 rfl rfl rfl ?_
  have tok : True := trivial
  repeat' first
    | (have _ := tok; clear tok; apply RO.op; apply OP.alloc hS; rfl; rfl; rfl; clear hS; intro b5 w1 hS)
    | (apply RO.op; apply OP.callF; rfl; rfl; rfl; show Cl _ 23 _ _ _; exact hbuilt hS; clear hS; rintro v w1 ⟨p, a, rfl, hS⟩; obtain ⟨r, c, rfl, hT⟩ := ra_eq (hS.take (.tail .head)); clear hS; have hS := hT; clear hT)
    | (apply OP.callF; rfl; rfl; rfl; show Cl _ 23 _ _ _; exact hbuilt hS; clear hS; rintro v w1 ⟨p, a, rfl, hS⟩; obtain ⟨r, c, rfl, hT⟩ := ra_eq (hS.take (.tail .head)); clear hS; have hS := hT; clear hT; refine ⟨(by first | exact hS | exact hS.tail | exact hS.sublist (by repeat (first | exact List.Sublist.refl _ | refine .cons_cons _ ?_ | refine .cons _ ?_))), ?_⟩)
    | (apply RO.op; apply OP.callF; rfl; rfl; rfl; show Cl _ 15 _ _ _; exact knew_calls hS; clear hS; rintro v w1 ⟨kb, rfl, hS⟩)
    | (apply OP.callF; rfl; rfl; rfl; show Cl _ 15 _ _ _; exact knew_calls hS; clear hS; rintro v w1 ⟨kb, rfl, hS⟩; refine ⟨(by first | exact hS | exact hS.tail | exact hS.sublist (by repeat (first | exact List.Sublist.refl _ | refine .cons_cons _ ?_ | refine .cons _ ?_))), ?_⟩)
    | refine Run.seq ?_
    | refine Run.region ?_
    | (refine RO.split ?_ ?_ <;> intro hc <;> try (first | (exfalso; omega) | exact absurd rfl hc | exact Bool.noConfusion hc))
    | refine RO.nil ?_
    | refine RO.still (by exact Still.any) hS rfl ?_
    | (apply RO.op; apply OP.box hS; rfl; rfl; rfl; clear hS; intro b w1 hS)
    | (apply RO.op; apply OP.alloc hS; rfl; rfl; rfl; clear hS; intro b w1 hS)
    | (apply RO.op; apply OP.store hS; rfl; rfl; rfl; rfl; rfl; (focus ((repeat (first | apply Has.head | apply Take.head | apply Put.head | apply Has.tail | apply Take.tail | apply Put.tail)); done)); rfl; rfl; clear hS; intro w1 hS)
    | (apply RO.op; apply OP.buildSlice hS; rfl; rfl; (exact eqAuto); rfl; rfl; rfl; rfl; rfl; clear hS; intro b w1 hS)
    | (apply RO.op; apply OP.makeMap hS; rfl; clear hS; intro b w1 hS)
    | refine RO.yes rfl rfl ?_
    | refine RO.no rfl rfl rfl rfl ?_
    | refine RO.noUndef rfl rfl rfl ?_
    | refine RO.noNone rfl rfl rfl ?_
    | refine Run.cond_true rfl ?_
    | refine Run.cond_false rfl ?_
    | refine Run.skip ?_
    | refine Run.block ?_
    | refine Run.inBlock ?_
    | refine Run.exit rfl ?_
  obtain ⟨b0, hb0⟩ : ∃ x, x = b := ⟨b, rfl⟩
  subst hb0
  refine Run.while (fun i : Nat => [(2, .slice p1 refs.length c1), (7, .pointer (some ⟨b5, 0, none⟩)), (9, .pointer (some ⟨p, 0, none⟩)), (10, .pointer (some ⟨b0, 0, none⟩)), (12, .pointer (some ⟨kb, 0, none⟩)), (35, .slice p1 refs.length c1), (36, .int .i64 refs.length), (37, .int .i64 i)])
    (fun i w => i ≤ refs.length ∧ St we ρ (KN kb p ((refs.take i).filter (has L)) (learnAll L (refs.take i) fun _ => false) :: Arena p (room limit) L :: RA (raV (room limit) r L.length c) (room limit) L :: Row b0 [.int .i64 (room limit), .slice (some ⟨r, 0, none⟩) L.length c] 29 :: Row b5 [.int .i64 0, .slice none 0 0] 29 :: σ) w) (fun i => refs.length - i) 0
    ⟨by omega, by exact hS.picks (by focus ((repeat (first | apply Picks.all | apply Picks.nil | (refine Picks.cons (by repeat (first | apply Take.head | apply Take.tail)) ?_) | apply Picks.drop)); done))⟩ (by focus ((repeat (first | exact .nil | refine .cons rfl ?_)); done)) ?_
  clear hS
  rintro i w ⟨hi, hS⟩ ih
  by_cases hlt : i < refs.length
  · obtain ⟨b1, o1, cs1, e1, f1, rfl, m1, hx1⟩ := hr.int hlt
    have e0 : learnAll L (refs.take (i + 1)) (fun _ => false) = if has L refs[i] = true then cl L (ins (learnAll L (refs.take i) fun _ => false) refs[i]) else learnAll L (refs.take i) fun _ => false := by
      rw [List.take_succ_eq_append_getElem hlt, learnAll_snoc]
    have e2 := filter_snoc (p := has L) hlt
    have hhas := hh (refs.take i)
    have hfl : ((refs.take i).filter (has L)).length ≤ 100000 := by
      have := List.length_filter_le (has L) (refs.take i)
      rw [List.length_take] at this
      omega
    generalize learnAll L (refs.take i) (fun _ => false) = K0 at hS e0 hhas
    generalize (refs.take i).filter (has L) = hd at hS e2 hfl
    generalize refs[i] = x at hx1 e0 e2
    cases hx : has L x with
    | false =>
      rw [if_neg (by rw [hx]; simp)] at e0 e2
      rw [List.append_nil] at e2
      repeat' first
        | (refine RO.still (by apply Still.load; rfl; rfl; exact Rd.ro m1; exact hx1) hS rfl ?_)
        | (apply RO.op; apply OP.callF; rfl; rfl; rfl; show Cl _ 21 _ _ _; exact learn_no hhas hfl hx (hS.take2 (by focus ((repeat (first | apply Has.head | apply Take.head | apply Put.head | apply Has.tail | apply Take.tail | apply Put.tail)); done)) (by focus ((repeat (first | apply Has.head | apply Take.head | apply Put.head | apply Has.tail | apply Take.tail | apply Put.tail)); done))); clear hS; rintro v w1 ⟨rfl, hS⟩)
        | (apply OP.callF; rfl; rfl; rfl; show Cl _ 21 _ _ _; exact learn_no hhas hfl hx (hS.take2 (by focus ((repeat (first | apply Has.head | apply Take.head | apply Put.head | apply Has.tail | apply Take.tail | apply Put.tail)); done)) (by focus ((repeat (first | apply Has.head | apply Take.head | apply Put.head | apply Has.tail | apply Take.tail | apply Put.tail)); done))); clear hS; rintro v w1 ⟨rfl, hS⟩; refine ⟨(by first | exact hS | exact hS.tail | exact hS.sublist (by repeat (first | exact List.Sublist.refl _ | refine .cons_cons _ ?_ | refine .cons _ ?_))), ?_⟩)
        | refine Run.seq ?_
        | refine Run.region ?_
        | (refine RO.split ?_ ?_ <;> intro hc <;> try (first | (exfalso; omega) | exact absurd rfl hc | exact Bool.noConfusion hc))
        | refine RO.nil ?_
        | refine RO.still (by exact Still.any) hS rfl ?_
        | (apply RO.op; apply OP.box hS; rfl; rfl; rfl; clear hS; intro b w1 hS)
        | (apply RO.op; apply OP.alloc hS; rfl; rfl; rfl; clear hS; intro b w1 hS)
        | (apply RO.op; apply OP.store hS; rfl; rfl; rfl; rfl; rfl; (focus ((repeat (first | apply Has.head | apply Take.head | apply Put.head | apply Has.tail | apply Take.tail | apply Put.tail)); done)); rfl; rfl; clear hS; intro w1 hS)
        | (apply RO.op; apply OP.buildSlice hS; rfl; rfl; (exact eqAuto); rfl; rfl; rfl; rfl; rfl; clear hS; intro b w1 hS)
        | (apply RO.op; apply OP.makeMap hS; rfl; clear hS; intro b w1 hS)
        | refine RO.yes rfl rfl ?_
        | refine RO.no rfl rfl rfl rfl ?_
        | refine RO.noUndef rfl rfl rfl ?_
        | refine RO.noNone rfl rfl rfl ?_
        | refine Run.cond_true rfl ?_
        | refine Run.cond_false rfl ?_
        | refine Run.skip ?_
        | refine Run.block ?_
        | refine Run.inBlock ?_
        | refine Run.exit rfl ?_
      refine Run.weaken (by focus ((repeat (first | exact .nil | refine .cons rfl ?_)); done)) (ih (i + 1) _ ⟨by omega, ?_⟩ (by omega))
      rw [e0, e2]
      exact hS.picks (by focus ((repeat (first | apply Picks.all | apply Picks.nil | (refine Picks.cons (by repeat (first | apply Take.head | apply Take.tail)) ?_) | apply Picks.drop)); done))
    | true =>
      rw [if_pos hx] at e0 e2
      repeat' first
        | (refine RO.still (by apply Still.load; rfl; rfl; exact Rd.ro m1; exact hx1) hS rfl ?_)
        | (apply RO.op; apply OP.callF; rfl; rfl; rfl; show Cl _ 21 _ _ _; exact learn_yes hhas hfl hx (hS.take2 (by focus ((repeat (first | apply Has.head | apply Take.head | apply Put.head | apply Has.tail | apply Take.tail | apply Put.tail)); done)) (by focus ((repeat (first | apply Has.head | apply Take.head | apply Put.head | apply Has.tail | apply Take.tail | apply Put.tail)); done))); clear hS; rintro v w1 ⟨rfl, hS⟩)
        | (apply OP.callF; rfl; rfl; rfl; show Cl _ 21 _ _ _; exact learn_yes hhas hfl hx (hS.take2 (by focus ((repeat (first | apply Has.head | apply Take.head | apply Put.head | apply Has.tail | apply Take.tail | apply Put.tail)); done)) (by focus ((repeat (first | apply Has.head | apply Take.head | apply Put.head | apply Has.tail | apply Take.tail | apply Put.tail)); done))); clear hS; rintro v w1 ⟨rfl, hS⟩; refine ⟨(by first | exact hS | exact hS.tail | exact hS.sublist (by repeat (first | exact List.Sublist.refl _ | refine .cons_cons _ ?_ | refine .cons _ ?_))), ?_⟩)
        | refine Run.seq ?_
        | refine Run.region ?_
        | (refine RO.split ?_ ?_ <;> intro hc <;> try (first | (exfalso; omega) | exact absurd rfl hc | exact Bool.noConfusion hc))
        | refine RO.nil ?_
        | refine RO.still (by exact Still.any) hS rfl ?_
        | (apply RO.op; apply OP.box hS; rfl; rfl; rfl; clear hS; intro b w1 hS)
        | (apply RO.op; apply OP.alloc hS; rfl; rfl; rfl; clear hS; intro b w1 hS)
        | (apply RO.op; apply OP.store hS; rfl; rfl; rfl; rfl; rfl; (focus ((repeat (first | apply Has.head | apply Take.head | apply Put.head | apply Has.tail | apply Take.tail | apply Put.tail)); done)); rfl; rfl; clear hS; intro w1 hS)
        | (apply RO.op; apply OP.buildSlice hS; rfl; rfl; (exact eqAuto); rfl; rfl; rfl; rfl; rfl; clear hS; intro b w1 hS)
        | (apply RO.op; apply OP.makeMap hS; rfl; clear hS; intro b w1 hS)
        | refine RO.yes rfl rfl ?_
        | refine RO.no rfl rfl rfl rfl ?_
        | refine RO.noUndef rfl rfl rfl ?_
        | refine RO.noNone rfl rfl rfl ?_
        | refine Run.cond_true rfl ?_
        | refine Run.cond_false rfl ?_
        | refine Run.skip ?_
        | refine Run.block ?_
        | refine Run.inBlock ?_
        | refine Run.exit rfl ?_
      refine Run.weaken (by focus ((repeat (first | exact .nil | refine .cons rfl ?_)); done)) (ih (i + 1) _ ⟨by omega, ?_⟩ (by omega))
      rw [e0, e2]
      exact hS.picks (by focus ((repeat (first | apply Picks.all | apply Picks.nil | (refine Picks.cons (by repeat (first | apply Take.head | apply Take.tail)) ?_) | apply Picks.drop)); done))
  · obtain rfl : i = refs.length := by omega
    rw [List.take_of_length_le (Nat.le_refl _), hK] at hS
    repeat' first
      | refine Run.seq ?_
      | refine Run.region ?_
      | (refine RO.split ?_ ?_ <;> intro hc <;> try (first | (exfalso; omega) | exact absurd rfl hc | exact Bool.noConfusion hc))
      | refine RO.nil ?_
      | refine RO.still (by exact Still.any) hS rfl ?_
      | (apply RO.op; apply OP.box hS; rfl; rfl; rfl; clear hS; intro b w1 hS)
      | (apply RO.op; apply OP.alloc hS; rfl; rfl; rfl; clear hS; intro b w1 hS)
      | (apply RO.op; apply OP.store hS; rfl; rfl; rfl; rfl; rfl; (focus ((repeat (first | apply Has.head | apply Take.head | apply Put.head | apply Has.tail | apply Take.tail | apply Put.tail)); done)); rfl; rfl; clear hS; intro w1 hS)
      | (apply RO.op; apply OP.buildSlice hS; rfl; rfl; (exact eqAuto); rfl; rfl; rfl; rfl; rfl; clear hS; intro b w1 hS)
      | (apply RO.op; apply OP.makeMap hS; rfl; clear hS; intro b w1 hS)
      | refine RO.yes rfl rfl ?_
      | refine RO.no rfl rfl rfl rfl ?_
      | refine RO.noUndef rfl rfl rfl ?_
      | refine RO.noNone rfl rfl rfl ?_
      | refine Run.cond_true rfl ?_
      | refine Run.cond_false rfl ?_
      | refine Run.skip ?_
      | refine Run.block ?_
      | refine Run.inBlock ?_
      | refine Run.exit rfl ?_
    refine (Run.regionH_cut (fun _ : Unit => Row b5 [.int .i64 (room limit), .slice (some ⟨r, 0, none⟩) L.length c] 29 :: KN kb p (refs.filter (has L)) K :: Arena p (room limit) L :: RA (raV (room limit) r L.length c) (room limit) L :: σ)
      (fun _ => [(6, .pointer (some ⟨p, 0, none⟩)), (7, .pointer (some ⟨b5, 0, none⟩)), (8, .pointer (some ⟨kb, 0, none⟩))])
      hS (.cons_cons _ (.cons_cons _ (.cons_cons _ (.cons_cons _ (.cons _ (List.Sublist.refl _)))))) (by rfl) (by rfl) (by rfl) ?_ ?_)
    · clear hS
      intro w1 hS
      refine RH.relist (listed' := bm 6 0) (by kernel_rfl) ?_
      all_goals (apply RH.take (i := 0) (listed := (bm 6 0)) (listed' := (bm 6 1)); rfl; kernel_rfl; kernel_rfl; (apply Still.move; rfl); (first | exact hS | exact hS.tail | exact hS.sublist (by repeat (first | exact List.Sublist.refl _ | refine .cons_cons _ ?_ | refine .cons _ ?_))); rfl)
      all_goals (apply RH.take (i := 1) (listed := (bm 6 1)) (listed' := (bm 6 3)); rfl; kernel_rfl; kernel_rfl; (first | (apply Still.load; rfl; rfl; (exact Rd.any); (first | rfl | exact flat_get0 (by assumption) | exact flat_get1 (by assumption) | exact flat_get2 (by assumption) | exact flat_get3 (by assumption) | exact flat_get4 (by assumption))) | (apply Still.loadAgg; rfl; rfl; (exact eqAuto); (exact Rd.any); (first | exact flat_take (by assumption) | rfl); rfl)); (first | exact hS | exact hS.tail | exact hS.sublist (by repeat (first | exact List.Sublist.refl _ | refine .cons_cons _ ?_ | refine .cons _ ?_))); rfl)
      all_goals (apply RH.take (i := 2) (listed := (bm 6 3)) (listed' := (bm 6 7)); rfl; kernel_rfl; kernel_rfl; (apply Still.move; rfl); (first | exact hS | exact hS.tail | exact hS.sublist (by repeat (first | exact List.Sublist.refl _ | refine .cons_cons _ ?_ | refine .cons _ ?_))); rfl)
      all_goals (apply RH.take (i := 3) (listed := (bm 6 7)) (listed' := (bm 6 15)); rfl; kernel_rfl; kernel_rfl; (apply Still.assign; rfl); (first | exact hS | exact hS.tail | exact hS.sublist (by repeat (first | exact List.Sublist.refl _ | refine .cons_cons _ ?_ | refine .cons _ ?_))); rfl)
      all_goals
        apply RH.all1 (i := 4) (listed := (bm 6 15))
        · kernel_rfl
        · apply RI.op (i := 4) (listed := (bm 6 15)) (listed' := (bm 6 31)); rfl; kernel_rfl
          all_goals try first
          | (apply OP.store hS; rfl; rfl; rfl; rfl; rfl; (focus ((repeat (first | apply Has.head | apply Take.head | apply Put.head | apply Has.tail | apply Take.tail | apply Put.tail)); done)); rfl; rfl; clear hS; intro w1 hS; refine ⟨(by first | exact hS | exact hS.tail | exact hS.sublist (by repeat (first | exact List.Sublist.refl _ | refine .cons_cons _ ?_ | refine .cons _ ?_))), ?_⟩)
          all_goals (apply RH.take (i := 5) (listed := (bm 6 31)) (listed' := (bm 6 63)); rfl; kernel_rfl; kernel_rfl; (apply Still.assign; rfl); (first | exact hS | exact hS.tail | exact hS.sublist (by repeat (first | exact List.Sublist.refl _ | refine .cons_cons _ ?_ | refine .cons _ ?_))); rfl)
          all_goals (apply RH.done (listed := (bm 6 63)); kernel_rfl)
          all_goals (exact ⟨(), (by focus ((repeat (first | exact .nil | refine .cons rfl ?_)); done)), hS.picks (by focus ((repeat (first | apply Picks.all | apply Picks.nil | (refine Picks.cons (by repeat (first | apply Take.head | apply Take.tail)) ?_) | apply Picks.drop)); done))⟩)
    · clear hS
      rintro ⟨⟩ w1 hS
      repeat' first
        | refine Run.seq ?_
        | refine Run.region ?_
        | (refine RO.split ?_ ?_ <;> intro hc <;> try (first | (exfalso; omega) | exact absurd rfl hc | exact Bool.noConfusion hc))
        | refine RO.nil ?_
        | refine RO.still (by exact Still.any) hS rfl ?_
        | (apply RO.op; apply OP.box hS; rfl; rfl; rfl; clear hS; intro b w1 hS)
        | (apply RO.op; apply OP.alloc hS; rfl; rfl; rfl; clear hS; intro b w1 hS)
        | (apply RO.op; apply OP.store hS; rfl; rfl; rfl; rfl; rfl; (focus ((repeat (first | apply Has.head | apply Take.head | apply Put.head | apply Has.tail | apply Take.tail | apply Put.tail)); done)); rfl; rfl; clear hS; intro w1 hS)
        | (apply RO.op; apply OP.buildSlice hS; rfl; rfl; (exact eqAuto); rfl; rfl; rfl; rfl; rfl; clear hS; intro b w1 hS)
        | (apply RO.op; apply OP.makeMap hS; rfl; clear hS; intro b w1 hS)
        | refine RO.yes rfl rfl ?_
        | refine RO.no rfl rfl rfl rfl ?_
        | refine RO.noUndef rfl rfl rfl ?_
        | refine RO.noNone rfl rfl rfl ?_
        | refine Run.cond_true rfl ?_
        | refine Run.cond_false rfl ?_
        | refine Run.skip ?_
        | refine Run.block ?_
        | refine Run.inBlock ?_
        | refine Run.exit rfl ?_
      refine Run.ret Try.func10 rfl (.tmp rfl (.cell rfl (by first | exact run_loadAgg rfl rfl (hS.rd (by exact Rd.any)) (by rfl) (by rfl) | exact run_loadScalar rfl (cell_of (hS.rd (by exact Rd.any)) (by rfl))) (.tmp rfl .nil))) ?_
      exact ⟨kb, p, r, c, rfl, hS.picks (by focus ((repeat (first | apply Picks.all | apply Picks.nil | (refine Picks.cons (by repeat (first | apply Take.head | apply Take.tail)) ?_) | apply Picks.drop)); done))⟩
end
end Go.Proofs.Ythejfodjielahaa
