/-
  The laws' helpers for the layer of what is known: few, learned, awake.
-/
import Derived.Test.YtjkfbimldgegmaaKnow13
namespace Go.Proofs.Ytjkfbimldgegmaa
set_option maxRecDepth 8000
set_option linter.unusedSimpArgs false
set_option linter.unusedVariables false
open Go Go.RowKit

theorem filter_snoc {p : Int → Bool} {l : List Int} {i : Nat} (h : i < l.length) : (l.take (i + 1)).filter p = (l.take i).filter p ++ if p l[i] = true then [l[i]] else [] := by
  rw [List.take_succ_eq_append_getElem h, List.filter_append]
  cases hp : p l[i] <;> simp [hp]

section
variable {we w : World} {ρ : List (Nat × Obj)} {σ F : List HP} {L : List Nd} {K : Int → Bool} {kb p lim : Nat} {heard : List Int}

theorem learn_yes {x : Int} (hh : ∀ x, K x = true → has L x = true) (hl : heard.length ≤ 100000) (hx : has L x = true) (hS : St we ρ (KN kb p heard K :: Arena p lim L :: F) w) :
    Cl Try.prog 20 [.pointer (some ⟨kb, 0, none⟩), .int .i64 x] w fun v w' => v = .int .i64 0 ∧ St we ρ (KN kb p (heard ++ [x]) (cl L (ins K x)) :: Arena p lim L :: F) w' := by
  have := learn_calls (x := x) hh hl hS
  simpa only [hx, if_true] using this
theorem learn_no {x : Int} (hh : ∀ x, K x = true → has L x = true) (hl : heard.length ≤ 100000) (hx : has L x = false) (hS : St we ρ (KN kb p heard K :: Arena p lim L :: F) w) :
    Cl Try.prog 20 [.pointer (some ⟨kb, 0, none⟩), .int .i64 x] w fun v w' => v = .int .i64 1 ∧ St we ρ (KN kb p heard K :: Arena p lim L :: F) w' := by
  have := learn_calls (x := x) hh hl hS
  simpa only [hx, Bool.false_eq_true, if_false] using this
theorem kcan_is {x : Int} {b : Bool} (hh : ∀ x, K x = true → has L x = true) (h : can L K x = b) (hS : St we ρ (KN kb p heard K :: Arena p lim L :: F) w) :
    Cl Try.prog 15 [.pointer (some ⟨kb, 0, none⟩), .int .i64 x] w fun v w' => v = .bool b ∧ St we ρ (KN kb p heard K :: Arena p lim L :: F) w' := by
  have := kcan_calls (x := x) hh hS
  rwa [h] at this
theorem knows_is {x : Int} {b : Bool} (h : K x = b) (hS : St we ρ (KN kb p heard K :: F) w) :
    Cl Try.prog 16 [.pointer (some ⟨kb, 0, none⟩), .int .i64 x] w fun v w' => v = .bool b ∧ St we ρ (KN kb p heard K :: F) w' := by
  have := knows_calls (x := x) hS
  rwa [h] at this
theorem ins_has {x : Int} (hh : ∀ x, K x = true → has L x = true) (hx : has L x = true) : ∀ y, ins K x y = true → has L y = true := fun y hy => by
  rcases ins_iff.1 hy with q | rfl
  · exact hh y q
  · exact hx

def wk03 : Nat → List Nd
  | 0 => [Nd.z]
  | 1 => [Nd.z, ⟨1, 1, 0, 0, 0⟩]
  | 2 => [Nd.z, ⟨1, 1, 0, 0, 0⟩, ⟨1, 2, 0, 0, 0⟩]
  | _ => [Nd.z, ⟨1, 1, 0, 0, 0⟩, ⟨1, 2, 0, 0, 0⟩, ⟨7, 3, 1, 0, 2⟩]
theorem kwk1 : mk 20 (wk03 0) ⟨1, 1, 0, 0, 0⟩ = (wk03 1, 1, 0) := by kernel_rfl
theorem kwk2 : mk 20 (wk03 1) ⟨1, 2, 0, 0, 0⟩ = (wk03 2, 2, 0) := by kernel_rfl
theorem kwk3 : mk 20 (wk03 2) ⟨7, 3, 1, 0, 2⟩ = (wk03 3, 3, 0) := by kernel_rfl
theorem kwk_one : cl (wk03 3) (ins (fun _ => false) 3) = ins (fun _ => false) 3 := by
  refine cl_of_closed (closed_of fun z hz x hx => ?_)
  rcases ins_iff.1 hz with q | rfl
  · cases q
  · have hc : comesOf (wk03 3) (ins (fun _ => false) 3) 3 = [] := by kernel_rfl
    rw [hc] at hx; cases hx
theorem kwk_can : can (wk03 3) (ins (fun _ => false) 3) 2 = false := by kernel_rfl
theorem kwk_two : cl (wk03 3) (ins (ins (fun _ => false) 3) 1) 2 = true := by
  have h1 := (cl_closed (wk03 3) (ins (ins (fun _ => false) 3) 1)).opn 3 (cl_sub (ins_iff.2 (.inl (ins_iff.2 (.inr rfl))))) (by kernel_rfl)
  have e1 : (nd (wk03 3) 3).a = 1 := by kernel_rfl
  have e2 : (nd (wk03 3) 3).c = 2 := by kernel_rfl
  rw [e1, e2] at h1
  refine h1 (can_mono (K := ins (ins (fun _ => false) 3) 1) (fun y hy => cl_sub hy) ?_)
  kernel_rfl
theorem kwk_has3 : has (wk03 3) 3 = true := by kernel_rfl
theorem kwk_has1 : has (wk03 3) 1 = true := by kernel_rfl
theorem kwk_none : ∀ x, (fun _ : Int => false) x = true → has (wk03 3) x = true := by simp
theorem kwk_h1 : ∀ x, ins (fun _ => false) 3 x = true → has (wk03 3) x = true := ins_has kwk_none (by kernel_rfl)
theorem kwk_good : Good 20 (wk03 3) := by
  have := mk_good (mk_good (mk_good (room_good 20) ⟨1, 1, 0, 0, 0⟩) ⟨1, 2, 0, 0, 0⟩) ⟨7, 3, 1, 0, 2⟩
  have e : (mk (room 20) (mk (room 20) (mk (room 20) [Nd.z] ⟨1, 1, 0, 0, 0⟩).1 ⟨1, 2, 0, 0, 0⟩).1 ⟨7, 3, 1, 0, 2⟩).1 = wk03 3 := by kernel_rfl
  rw [e] at this
  exact this
theorem kwk_h2 : ∀ x, cl (wk03 3) (ins (ins (fun _ => false) 3) 1) x = true → has (wk03 3) x = true := fun x hx => cl_has kwk_good (ins_has kwk_h1 kwk_has1) hx
theorem kwk_can2 : can (wk03 3) (cl (wk03 3) (ins (ins (fun _ => false) 3) 1)) 2 = true := can_known kwk_good (by kernel_rfl) kwk_two

set_option maxHeartbeats 4000000 in
theorem kawake_calls (hS : St we ρ σ w) : Cl Try.prog 12 [] w fun v w' => v = .bool true ∧ St we ρ σ w' := by
  refine Run.calls0 (n := 78) Try.func12 rfl rfl ?_
  repeat' first
    | (apply RO.op; apply OP.callF; rfl; rfl; rfl; show Cl _ 24 _ _ _; exact new_calls hS; clear hS; rintro v w1 ⟨p, rfl, hS⟩; replace hS : St we ρ (Arena p 20 (wk03 0) :: σ) w1 := hS)
    | (apply RO.op; apply OP.callF; rfl; rfl; rfl; show Cl _ 25 _ _ _; (first | (apply mk_is kwk1; exact hS) | (apply mk_is kwk2; exact hS) | (apply mk_is kwk3; exact hS)); clear hS; rintro v w1 ⟨rfl, hS⟩)
    | (apply RO.op; apply OP.callF; rfl; rfl; rfl; show Cl _ 19 _ _ _; exact knew_calls hS; clear hS; rintro v w1 ⟨kb, rfl, hS⟩)
    | (apply RO.op; apply OP.callF; rfl; rfl; rfl; show Cl _ 20 _ _ _; exact learn_yes (x := 3) kwk_none (Nat.zero_le _) kwk_has3 (hS.take2 .head .head); clear hS; rintro v w1 ⟨rfl, hS⟩; rw [kwk_one] at hS)
    | (apply RO.op; apply OP.callF; rfl; rfl; rfl; show Cl _ 20 _ _ _; exact learn_yes (x := 1) kwk_h1 (by decide) kwk_has1 (hS.take2 .head .head); clear hS; rintro v w1 ⟨rfl, hS⟩)
    | (apply RO.op; apply OP.callF; rfl; rfl; rfl; show Cl _ 15 _ _ _; exact kcan_is (x := 2) kwk_h1 kwk_can (hS.take2 .head .head); clear hS; rintro v w1 ⟨rfl, hS⟩)
    | (apply RO.op; apply OP.callF; rfl; rfl; rfl; show Cl _ 15 _ _ _; exact kcan_is (x := 2) kwk_h2 kwk_can2 (hS.take2 .head .head); clear hS; rintro v w1 ⟨rfl, hS⟩)
    | (apply RO.op; apply OP.callF; rfl; rfl; rfl; show Cl _ 16 _ _ _; exact knows_is (x := 2) kwk_two (hS.take .head); clear hS; rintro v w1 ⟨rfl, hS⟩)
    | (apply RO.op; apply OP.callF; rfl; rfl; rfl; show Cl _ 23 _ _ _; exact heard_calls (by decide) (hS.take .head); clear hS; rintro v w1 hS; obtain ⟨pk, capk, rfl⟩ := vec_slice hS)
    | refine Run.seq ?_
    | refine Run.region ?_
    | (refine RO.split ?_ ?_ <;> intro hc <;> try (first | (exfalso; omega) | exact absurd rfl hc | exact Bool.noConfusion hc))
    | refine RO.nil ?_
    | refine RO.still (by exact Still.any) hS rfl ?_
    | (apply RO.op; apply OP.box hS; rfl; rfl; rfl; clear hS; intro b w1 hS)
    | (apply RO.op; apply OP.alloc hS; rfl; rfl; rfl; clear hS; intro b w1 hS)
    | (apply RO.op; apply OP.store hS; rfl; rfl; rfl; rfl; rfl; (focus ((repeat (first | apply Has.head | apply Take.head | apply Put.head | apply Has.tail | apply Take.tail | apply Put.tail)); done)); rfl; rfl; clear hS; intro w1 hS)
    | (apply RO.op; apply OP.buildSlice hS; rfl; rfl; (exact eqAuto); rfl; rfl; rfl; rfl; rfl; clear hS; intro b w1 hS)
    | (apply RO.op; apply OP.makeMap hS; rfl; clear hS; intro b w1 hS)
    | refine RO.yes rfl rfl ?_
    | refine RO.no rfl rfl rfl rfl ?_
    | refine RO.noUndef rfl rfl rfl ?_
    | refine RO.noNone rfl rfl rfl ?_
    | refine Run.cond_true rfl ?_
    | refine Run.cond_false rfl ?_
    | refine Run.skip ?_
    | refine Run.block ?_
    | refine Run.inBlock ?_
    | refine Run.exit rfl ?_
  all_goals
    refine Run.ret Try.func12 rfl (.tmp rfl .nil) ?_
    exact ⟨rfl, hS.picks (by focus ((repeat (first | apply Picks.all | apply Picks.nil | (refine Picks.cons (by repeat (first | apply Take.head | apply Take.tail)) ?_) | apply Picks.drop)); done))⟩

theorem few_calls {l : List Nd} {refs : List Int} {pl pr : Option Addr} {cl' cr : Nat} (hS : St we ρ σ w) :
    Cl Try.prog 11 [.slice pl l.length cl', .slice pr refs.length cr] w fun v w' => v = .bool (decide (l.length ≤ 30 ∧ refs.length ≤ 30)) ∧ St we ρ σ w' := by
  by_cases h1 : l.length ≤ 30
  · by_cases h2 : refs.length ≤ 30
    · rw [decide_eq_true ⟨h1, h2⟩]
      refine Run.calls2 (n := 13) Try.func11 rfl rfl rfl ?_
      repeat' first
        | refine Run.seq ?_
        | refine Run.region ?_
        | (refine RO.split ?_ ?_ <;> intro hc <;> try (first | (exfalso; omega) | exact absurd rfl hc | exact Bool.noConfusion hc))
        | refine RO.nil ?_
        | refine RO.still (by exact Still.any) hS rfl ?_
        | (apply RO.op; apply OP.box hS; rfl; rfl; rfl; clear hS; intro b w1 hS)
        | (apply RO.op; apply OP.alloc hS; rfl; rfl; rfl; clear hS; intro b w1 hS)
        | (apply RO.op; apply OP.store hS; rfl; rfl; rfl; rfl; rfl; (focus ((repeat (first | apply Has.head | apply Take.head | apply Put.head | apply Has.tail | apply Take.tail | apply Put.tail)); done)); rfl; rfl; clear hS; intro w1 hS)
        | (apply RO.op; apply OP.buildSlice hS; rfl; rfl; (exact eqAuto); rfl; rfl; rfl; rfl; rfl; clear hS; intro b w1 hS)
        | (apply RO.op; apply OP.makeMap hS; rfl; clear hS; intro b w1 hS)
        | refine RO.yes rfl rfl ?_
        | refine RO.no rfl rfl rfl rfl ?_
        | refine RO.noUndef rfl rfl rfl ?_
        | refine RO.noNone rfl rfl rfl ?_
        | refine Run.cond_true rfl ?_
        | refine Run.cond_false rfl ?_
        | refine Run.skip ?_
        | refine Run.block ?_
        | refine Run.inBlock ?_
        | refine Run.exit rfl ?_
      refine Run.ret Try.func11 rfl (.tmp rfl .nil) ?_
      exact ⟨rfl, hS⟩
    · rw [decide_eq_false (fun h => h2 h.2)]
      refine Run.calls2 (n := 13) Try.func11 rfl rfl rfl ?_
      repeat' first
        | refine Run.seq ?_
        | refine Run.region ?_
        | (refine RO.split ?_ ?_ <;> intro hc <;> try (first | (exfalso; omega) | exact absurd rfl hc | exact Bool.noConfusion hc))
        | refine RO.nil ?_
        | refine RO.still (by exact Still.any) hS rfl ?_
        | (apply RO.op; apply OP.box hS; rfl; rfl; rfl; clear hS; intro b w1 hS)
        | (apply RO.op; apply OP.alloc hS; rfl; rfl; rfl; clear hS; intro b w1 hS)
        | (apply RO.op; apply OP.store hS; rfl; rfl; rfl; rfl; rfl; (focus ((repeat (first | apply Has.head | apply Take.head | apply Put.head | apply Has.tail | apply Take.tail | apply Put.tail)); done)); rfl; rfl; clear hS; intro w1 hS)
        | (apply RO.op; apply OP.buildSlice hS; rfl; rfl; (exact eqAuto); rfl; rfl; rfl; rfl; rfl; clear hS; intro b w1 hS)
        | (apply RO.op; apply OP.makeMap hS; rfl; clear hS; intro b w1 hS)
        | refine RO.yes rfl rfl ?_
        | refine RO.no rfl rfl rfl rfl ?_
        | refine RO.noUndef rfl rfl rfl ?_
        | refine RO.noNone rfl rfl rfl ?_
        | refine Run.cond_true rfl ?_
        | refine Run.cond_false rfl ?_
        | refine Run.skip ?_
        | refine Run.block ?_
        | refine Run.inBlock ?_
        | refine Run.exit rfl ?_
      refine Run.ret Try.func11 rfl (.tmp rfl .nil) ?_
      exact ⟨rfl, hS⟩
  · rw [decide_eq_false (fun h => h1 h.1)]
    refine Run.calls2 (n := 13) Try.func11 rfl rfl rfl ?_
    repeat' first
      | refine Run.seq ?_
      | refine Run.region ?_
      | (refine RO.split ?_ ?_ <;> intro hc <;> try (first | (exfalso; omega) | exact absurd rfl hc | exact Bool.noConfusion hc))
      | refine RO.nil ?_
      | refine RO.still (by exact Still.any) hS rfl ?_
      | (apply RO.op; apply OP.box hS; rfl; rfl; rfl; clear hS; intro b w1 hS)
      | (apply RO.op; apply OP.alloc hS; rfl; rfl; rfl; clear hS; intro b w1 hS)
      | (apply RO.op; apply OP.store hS; rfl; rfl; rfl; rfl; rfl; (focus ((repeat (first | apply Has.head | apply Take.head | apply Put.head | apply Has.tail | apply Take.tail | apply Put.tail)); done)); rfl; rfl; clear hS; intro w1 hS)
      | (apply RO.op; apply OP.buildSlice hS; rfl; rfl; (exact eqAuto); rfl; rfl; rfl; rfl; rfl; clear hS; intro b w1 hS)
      | (apply RO.op; apply OP.makeMap hS; rfl; clear hS; intro b w1 hS)
      | refine RO.yes rfl rfl ?_
      | refine RO.no rfl rfl rfl rfl ?_
      | refine RO.noUndef rfl rfl rfl ?_
      | refine RO.noNone rfl rfl rfl ?_
      | refine Run.cond_true rfl ?_
      | refine Run.cond_false rfl ?_
      | refine Run.skip ?_
      | refine Run.block ?_
      | refine Run.inBlock ?_
      | refine Run.exit rfl ?_
    refine Run.ret Try.func11 rfl (.tmp rfl .nil) ?_
    exact ⟨rfl, hS⟩

set_option maxHeartbeats 4000000 in
theorem learned_calls {l : List Nd} {refs : List Int} {vl vr : Value} (hll : l.length ≤ 40) (hrl : refs.length ≤ 30) (hl : Nds ρ vl l) (hr : Sl ρ intL 1 vr refs) (hS : St we ρ σ w) :
    Cl Try.prog 13 [vl, vr] w fun v w' => ∃ kb p r c spare gk ck sp, v = .tuple #[.pointer (some ⟨kb, 0, none⟩), raV (room 100) r (builtUp (room 100) l).length c, .slice (some ⟨gk, 0, none⟩) (builtUp (room 100) l).length ck, .bool true] ∧
      St we ρ (KN kb p (refs.filter (has (builtUp (room 100) l))) (learnAll (builtUp (room 100) l) refs fun _ => false) :: Arena p (room 100) (builtUp (room 100) l) :: Row r (flat (builtUp (room 100) l) ++ spare) 37 ::
        Row gk (boolsL (builtUp (room 100) l) (learnAll (builtUp (room 100) l) refs fun _ => false) ++ sp) 4 :: σ) w' := by
  obtain ⟨p1, c1, rfl, h1, h2, _⟩ := hr.val
  unfold maxLen at h2
  have g := builtUp_good (limit := 100) l
  have hh := learnAll_has g (K := fun _ => false) (by simp)
  generalize hL : builtUp (room 100) l = L at g hh
  have hlim := g.lim
  have hlen := g.len
  refine Run.calls2 (n := 64) Try.func13 rfl rfl rfl ?_
  have tok : True := trivial
  repeat' first
    | (have _ := tok; clear tok; apply RO.op; apply OP.alloc hS; rfl; rfl; rfl; clear hS; intro b5 w1 hS)
    | (apply RO.op; apply OP.callF; rfl; rfl; rfl; show Cl _ 18 _ _ _; exact built_calls hll hl hS; clear hS; rintro v w1 ⟨p, a, rfl, hS⟩; rw [hL] at hS; obtain ⟨r, c, spare, rfl, -, g2, g3, g4, hS⟩ := ra_open (hS.take (.tail .head)))
    | (apply OP.callF; rfl; rfl; rfl; show Cl _ 18 _ _ _; exact built_calls hll hl hS; clear hS; rintro v w1 ⟨p, a, rfl, hS⟩; rw [hL] at hS; obtain ⟨r, c, spare, rfl, -, g2, g3, g4, hS⟩ := ra_open (hS.take (.tail .head)); refine ⟨(by first | exact hS | exact hS.tail | exact hS.sublist (by repeat (first | exact List.Sublist.refl _ | refine .cons_cons _ ?_ | refine .cons _ ?_))), ?_⟩)
    | (apply RO.op; apply OP.callF; rfl; rfl; rfl; show Cl _ 19 _ _ _; exact knew_calls hS; clear hS; rintro v w1 ⟨kb, rfl, hS⟩)
    | (apply OP.callF; rfl; rfl; rfl; show Cl _ 19 _ _ _; exact knew_calls hS; clear hS; rintro v w1 ⟨kb, rfl, hS⟩; refine ⟨(by first | exact hS | exact hS.tail | exact hS.sublist (by repeat (first | exact List.Sublist.refl _ | refine .cons_cons _ ?_ | refine .cons _ ?_))), ?_⟩)
    | refine Run.seq ?_
    | refine Run.region ?_
    | (refine RO.split ?_ ?_ <;> intro hc <;> try (first | (exfalso; omega) | exact absurd rfl hc | exact Bool.noConfusion hc))
    | refine RO.nil ?_
    | refine RO.still (by exact Still.any) hS rfl ?_
    | (apply RO.op; apply OP.box hS; rfl; rfl; rfl; clear hS; intro b w1 hS)
    | (apply RO.op; apply OP.alloc hS; rfl; rfl; rfl; clear hS; intro b w1 hS)
    | (apply RO.op; apply OP.store hS; rfl; rfl; rfl; rfl; rfl; (focus ((repeat (first | apply Has.head | apply Take.head | apply Put.head | apply Has.tail | apply Take.tail | apply Put.tail)); done)); rfl; rfl; clear hS; intro w1 hS)
    | (apply RO.op; apply OP.buildSlice hS; rfl; rfl; (exact eqAuto); rfl; rfl; rfl; rfl; rfl; clear hS; intro b w1 hS)
    | (apply RO.op; apply OP.makeMap hS; rfl; clear hS; intro b w1 hS)
    | refine RO.yes rfl rfl ?_
    | refine RO.no rfl rfl rfl rfl ?_
    | refine RO.noUndef rfl rfl rfl ?_
    | refine RO.noNone rfl rfl rfl ?_
    | refine Run.cond_true rfl ?_
    | refine Run.cond_false rfl ?_
    | refine Run.skip ?_
    | refine Run.block ?_
    | refine Run.inBlock ?_
    | refine Run.exit rfl ?_
  refine Run.while (fun i : Nat => [(1, .slice p1 refs.length c1), (5, .pointer (some ⟨b5, 0, none⟩)), (9, .pointer (some ⟨b, 0, none⟩)), (11, .pointer (some ⟨kb, 0, none⟩)), (34, .slice p1 refs.length c1), (35, .int .i64 refs.length), (36, .int .i64 i)])
    (fun i w => i ≤ refs.length ∧ St we ρ (KN kb p ((refs.take i).filter (has L)) (learnAll L (refs.take i) fun _ => false) :: Arena p (room 100) L :: Row r (flat L ++ spare) 37 :: Row b [.int .i64 (room 100), .slice (some ⟨r, 0, none⟩) L.length c] 29 :: Row b5 [.int .i64 0, .slice none 0 0] 29 :: σ) w) (fun i => refs.length - i) 0
    ⟨by omega, by exact hS.picks (by focus ((repeat (first | apply Picks.all | apply Picks.nil | (refine Picks.cons (by repeat (first | apply Take.head | apply Take.tail)) ?_) | apply Picks.drop)); done))⟩ (by focus ((repeat (first | exact .nil | refine .cons rfl ?_)); done)) ?_
  clear hS
  rintro i w ⟨hi, hS⟩ ih
  by_cases hlt : i < refs.length
  · obtain ⟨b1, o1, cs1, e1, f1, rfl, m1, hx1⟩ := hr.int hlt
    have e0 : learnAll L (refs.take (i + 1)) (fun _ => false) = if has L refs[i] = true then cl L (ins (learnAll L (refs.take i) fun _ => false) refs[i]) else learnAll L (refs.take i) fun _ => false := by
      rw [List.take_succ_eq_append_getElem hlt, learnAll_snoc]
    have e2 := filter_snoc (p := has L) hlt
    have hhas := hh (refs.take i)
    have hfl : ((refs.take i).filter (has L)).length ≤ 100000 := by
      have := List.length_filter_le (has L) (refs.take i)
      rw [List.length_take] at this
      omega
    generalize learnAll L (refs.take i) (fun _ => false) = K0 at hS e0 hhas
    generalize (refs.take i).filter (has L) = hd at hS e2 hfl
    generalize refs[i] = x at hx1 e0 e2
    cases hx : has L x with
    | false =>
      rw [if_neg (by rw [hx]; simp)] at e0 e2
      rw [List.append_nil] at e2
      repeat' first
        | (refine RO.still (by apply Still.load; rfl; rfl; exact Rd.ro m1; exact hx1) hS rfl ?_)
        | (apply RO.op; apply OP.callF; rfl; rfl; rfl; show Cl _ 20 _ _ _; exact learn_no hhas hfl hx (hS.take2 (by focus ((repeat (first | apply Has.head | apply Take.head | apply Put.head | apply Has.tail | apply Take.tail | apply Put.tail)); done)) (by focus ((repeat (first | apply Has.head | apply Take.head | apply Put.head | apply Has.tail | apply Take.tail | apply Put.tail)); done))); clear hS; rintro v w1 ⟨rfl, hS⟩)
        | (apply OP.callF; rfl; rfl; rfl; show Cl _ 20 _ _ _; exact learn_no hhas hfl hx (hS.take2 (by focus ((repeat (first | apply Has.head | apply Take.head | apply Put.head | apply Has.tail | apply Take.tail | apply Put.tail)); done)) (by focus ((repeat (first | apply Has.head | apply Take.head | apply Put.head | apply Has.tail | apply Take.tail | apply Put.tail)); done))); clear hS; rintro v w1 ⟨rfl, hS⟩; refine ⟨(by first | exact hS | exact hS.tail | exact hS.sublist (by repeat (first | exact List.Sublist.refl _ | refine .cons_cons _ ?_ | refine .cons _ ?_))), ?_⟩)
        | (apply RO.op; apply OP.callF; rfl; rfl; rfl; show Cl _ 21 _ _ _; exact refHas_is hx hS; clear hS; rintro v w1 ⟨rfl, hS⟩)
        | (apply OP.callF; rfl; rfl; rfl; show Cl _ 21 _ _ _; exact refHas_is hx hS; clear hS; rintro v w1 ⟨rfl, hS⟩; refine ⟨(by first | exact hS | exact hS.tail | exact hS.sublist (by repeat (first | exact List.Sublist.refl _ | refine .cons_cons _ ?_ | refine .cons _ ?_))), ?_⟩)
        | refine Run.seq ?_
        | refine Run.region ?_
        | (refine RO.split ?_ ?_ <;> intro hc <;> try (first | (exfalso; omega) | exact absurd rfl hc | exact Bool.noConfusion hc))
        | refine RO.nil ?_
        | refine RO.still (by exact Still.any) hS rfl ?_
        | (apply RO.op; apply OP.box hS; rfl; rfl; rfl; clear hS; intro b w1 hS)
        | (apply RO.op; apply OP.alloc hS; rfl; rfl; rfl; clear hS; intro b w1 hS)
        | (apply RO.op; apply OP.store hS; rfl; rfl; rfl; rfl; rfl; (focus ((repeat (first | apply Has.head | apply Take.head | apply Put.head | apply Has.tail | apply Take.tail | apply Put.tail)); done)); rfl; rfl; clear hS; intro w1 hS)
        | (apply RO.op; apply OP.buildSlice hS; rfl; rfl; (exact eqAuto); rfl; rfl; rfl; rfl; rfl; clear hS; intro b w1 hS)
        | (apply RO.op; apply OP.makeMap hS; rfl; clear hS; intro b w1 hS)
        | refine RO.yes rfl rfl ?_
        | refine RO.no rfl rfl rfl rfl ?_
        | refine RO.noUndef rfl rfl rfl ?_
        | refine RO.noNone rfl rfl rfl ?_
        | refine Run.cond_true rfl ?_
        | refine Run.cond_false rfl ?_
        | refine Run.skip ?_
        | refine Run.block ?_
        | refine Run.inBlock ?_
        | refine Run.exit rfl ?_
      refine Run.weaken (by focus ((repeat (first | exact .nil | refine .cons rfl ?_)); done)) (ih (i + 1) _ ⟨by omega, ?_⟩ (by omega))
      rw [e0, e2]
      exact hS.picks (by focus ((repeat (first | apply Picks.all | apply Picks.nil | (refine Picks.cons (by repeat (first | apply Take.head | apply Take.tail)) ?_) | apply Picks.drop)); done))
    | true =>
      rw [if_pos hx] at e0 e2
      repeat' first
        | (refine RO.still (by apply Still.load; rfl; rfl; exact Rd.ro m1; exact hx1) hS rfl ?_)
        | (apply RO.op; apply OP.callF; rfl; rfl; rfl; show Cl _ 20 _ _ _; exact learn_yes hhas hfl hx (hS.take2 (by focus ((repeat (first | apply Has.head | apply Take.head | apply Put.head | apply Has.tail | apply Take.tail | apply Put.tail)); done)) (by focus ((repeat (first | apply Has.head | apply Take.head | apply Put.head | apply Has.tail | apply Take.tail | apply Put.tail)); done))); clear hS; rintro v w1 ⟨rfl, hS⟩)
        | (apply OP.callF; rfl; rfl; rfl; show Cl _ 20 _ _ _; exact learn_yes hhas hfl hx (hS.take2 (by focus ((repeat (first | apply Has.head | apply Take.head | apply Put.head | apply Has.tail | apply Take.tail | apply Put.tail)); done)) (by focus ((repeat (first | apply Has.head | apply Take.head | apply Put.head | apply Has.tail | apply Take.tail | apply Put.tail)); done))); clear hS; rintro v w1 ⟨rfl, hS⟩; refine ⟨(by first | exact hS | exact hS.tail | exact hS.sublist (by repeat (first | exact List.Sublist.refl _ | refine .cons_cons _ ?_ | refine .cons _ ?_))), ?_⟩)
        | (apply RO.op; apply OP.callF; rfl; rfl; rfl; show Cl _ 21 _ _ _; exact refHas_is hx hS; clear hS; rintro v w1 ⟨rfl, hS⟩)
        | (apply OP.callF; rfl; rfl; rfl; show Cl _ 21 _ _ _; exact refHas_is hx hS; clear hS; rintro v w1 ⟨rfl, hS⟩; refine ⟨(by first | exact hS | exact hS.tail | exact hS.sublist (by repeat (first | exact List.Sublist.refl _ | refine .cons_cons _ ?_ | refine .cons _ ?_))), ?_⟩)
        | refine Run.seq ?_
        | refine Run.region ?_
        | (refine RO.split ?_ ?_ <;> intro hc <;> try (first | (exfalso; omega) | exact absurd rfl hc | exact Bool.noConfusion hc))
        | refine RO.nil ?_
        | refine RO.still (by exact Still.any) hS rfl ?_
        | (apply RO.op; apply OP.box hS; rfl; rfl; rfl; clear hS; intro b w1 hS)
        | (apply RO.op; apply OP.alloc hS; rfl; rfl; rfl; clear hS; intro b w1 hS)
        | (apply RO.op; apply OP.store hS; rfl; rfl; rfl; rfl; rfl; (focus ((repeat (first | apply Has.head | apply Take.head | apply Put.head | apply Has.tail | apply Take.tail | apply Put.tail)); done)); rfl; rfl; clear hS; intro w1 hS)
        | (apply RO.op; apply OP.buildSlice hS; rfl; rfl; (exact eqAuto); rfl; rfl; rfl; rfl; rfl; clear hS; intro b w1 hS)
        | (apply RO.op; apply OP.makeMap hS; rfl; clear hS; intro b w1 hS)
        | refine RO.yes rfl rfl ?_
        | refine RO.no rfl rfl rfl rfl ?_
        | refine RO.noUndef rfl rfl rfl ?_
        | refine RO.noNone rfl rfl rfl ?_
        | refine Run.cond_true rfl ?_
        | refine Run.cond_false rfl ?_
        | refine Run.skip ?_
        | refine Run.block ?_
        | refine Run.inBlock ?_
        | refine Run.exit rfl ?_
      refine Run.weaken (by focus ((repeat (first | exact .nil | refine .cons rfl ?_)); done)) (ih (i + 1) _ ⟨by omega, ?_⟩ (by omega))
      rw [e0, e2]
      exact hS.picks (by focus ((repeat (first | apply Picks.all | apply Picks.nil | (refine Picks.cons (by repeat (first | apply Take.head | apply Take.tail)) ?_) | apply Picks.drop)); done))
  · obtain rfl : i = refs.length := by omega
    rw [List.take_of_length_le (Nat.le_refl _)] at hS
    repeat' first
      | refine Run.seq ?_
      | refine Run.region ?_
      | (refine RO.split ?_ ?_ <;> intro hc <;> try (first | (exfalso; omega) | exact absurd rfl hc | exact Bool.noConfusion hc))
      | refine RO.nil ?_
      | refine RO.still (by exact Still.any) hS rfl ?_
      | (apply RO.op; apply OP.box hS; rfl; rfl; rfl; clear hS; intro b w1 hS)
      | (apply RO.op; apply OP.alloc hS; rfl; rfl; rfl; clear hS; intro b w1 hS)
      | (apply RO.op; apply OP.store hS; rfl; rfl; rfl; rfl; rfl; (focus ((repeat (first | apply Has.head | apply Take.head | apply Put.head | apply Has.tail | apply Take.tail | apply Put.tail)); done)); rfl; rfl; clear hS; intro w1 hS)
      | (apply RO.op; apply OP.buildSlice hS; rfl; rfl; (exact eqAuto); rfl; rfl; rfl; rfl; rfl; clear hS; intro b w1 hS)
      | (apply RO.op; apply OP.makeMap hS; rfl; clear hS; intro b w1 hS)
      | refine RO.yes rfl rfl ?_
      | refine RO.no rfl rfl rfl rfl ?_
      | refine RO.noUndef rfl rfl rfl ?_
      | refine RO.noNone rfl rfl rfl ?_
      | refine Run.cond_true rfl ?_
      | refine Run.cond_false rfl ?_
      | refine Run.skip ?_
      | refine Run.block ?_
      | refine Run.inBlock ?_
      | refine Run.exit rfl ?_
    refine (Run.regionH_cut (fun x : Nat × Nat × List Value => Row b5 [.int .i64 (room 100), .slice (some ⟨r, 0, none⟩) L.length c] 29 :: Row x.1 (boolsL L (learnAll L refs fun _ => false) ++ x.2.2) 4 ::
        KN kb p (refs.filter (has L)) (learnAll L refs fun _ => false) :: Arena p (room 100) L :: Row r (flat L ++ spare) 37 :: σ)
      (fun x => [(4, .pointer (some ⟨kb, 0, none⟩)), (5, .pointer (some ⟨b5, 0, none⟩)), (6, .slice (some ⟨x.1, 0, none⟩) L.length x.2.1), (7, .bool true)])
      hS (.cons_cons _ (.cons_cons _ (.cons_cons _ (.cons_cons _ (.cons _ (List.Sublist.refl _)))))) (by rfl) (by rfl) (by rfl) ?_ ?_)
    · clear hS
      intro w1 hS
      refine RH.relist (listed' := bm 9 0) (by kernel_rfl) ?_
      all_goals (apply RH.take (i := 0) (listed := (bm 9 0)) (listed' := (bm 9 1)); rfl; kernel_rfl; kernel_rfl; (apply Still.move; rfl); (first | exact hS | exact hS.tail | exact hS.sublist (by repeat (first | exact List.Sublist.refl _ | refine .cons_cons _ ?_ | refine .cons _ ?_))); rfl)
      all_goals (apply RH.take (i := 1) (listed := (bm 9 1)) (listed' := (bm 9 3)); rfl; kernel_rfl; kernel_rfl; (first | (apply Still.load; rfl; rfl; (exact Rd.any); (first | rfl | exact flat_get0 (by assumption) | exact flat_get1 (by assumption) | exact flat_get2 (by assumption) | exact flat_get3 (by assumption) | exact flat_get4 (by assumption))) | (apply Still.loadAgg; rfl; rfl; (exact eqAuto); (exact Rd.any); (first | exact flat_take (by assumption) | rfl); rfl)); (first | exact hS | exact hS.tail | exact hS.sublist (by repeat (first | exact List.Sublist.refl _ | refine .cons_cons _ ?_ | refine .cons _ ?_))); rfl)
      all_goals (apply RH.take (i := 2) (listed := (bm 9 3)) (listed' := (bm 9 7)); rfl; kernel_rfl; kernel_rfl; (first | (apply Still.load; rfl; rfl; (exact Rd.any); (first | rfl | exact flat_get0 (by assumption) | exact flat_get1 (by assumption) | exact flat_get2 (by assumption) | exact flat_get3 (by assumption) | exact flat_get4 (by assumption))) | (apply Still.loadAgg; rfl; rfl; (exact eqAuto); (exact Rd.any); (first | exact flat_take (by assumption) | rfl); rfl)); (first | exact hS | exact hS.tail | exact hS.sublist (by repeat (first | exact List.Sublist.refl _ | refine .cons_cons _ ?_ | refine .cons _ ?_))); rfl)
      all_goals (apply RH.take (i := 3) (listed := (bm 9 7)) (listed' := (bm 9 15)); rfl; kernel_rfl; kernel_rfl; (apply Still.move; rfl); (first | exact hS | exact hS.tail | exact hS.sublist (by repeat (first | exact List.Sublist.refl _ | refine .cons_cons _ ?_ | refine .cons _ ?_))); rfl)
      all_goals
        apply RH.all1 (i := 4) (listed := (bm 9 15))
        · kernel_rfl
        · apply RI.op (i := 4) (listed := (bm 9 15)) (listed' := (bm 9 31)); rfl; kernel_rfl
          all_goals try first
          | (apply OP.callF; rfl; rfl; rfl; apply refLearn (refs := refs) g hr hS; (exact Rd.any); clear hS; rintro v w1 ⟨gk, ck, sp, rfl, hS⟩; refine ⟨(by first | exact hS | exact hS.tail | exact hS.sublist (by repeat (first | exact List.Sublist.refl _ | refine .cons_cons _ ?_ | refine .cons _ ?_))), ?_⟩)
          | (refine OP.still (by exact Still.any) hS rfl ⟨(by first | exact hS | exact hS.tail | exact hS.sublist (by repeat (first | exact List.Sublist.refl _ | refine .cons_cons _ ?_ | refine .cons _ ?_))), ?_⟩)
          all_goals (apply RH.take (i := 5) (listed := (bm 9 31)) (listed' := (bm 9 63)); rfl; kernel_rfl; kernel_rfl; (apply Still.assign; rfl); (first | exact hS | exact hS.tail | exact hS.sublist (by repeat (first | exact List.Sublist.refl _ | refine .cons_cons _ ?_ | refine .cons _ ?_))); rfl)
          all_goals
            apply RH.all1 (i := 6) (listed := (bm 9 63))
            · kernel_rfl
            · apply RI.op (i := 6) (listed := (bm 9 63)) (listed' := (bm 9 127)); rfl; kernel_rfl
              all_goals try first
              | (apply OP.store hS; rfl; rfl; rfl; rfl; rfl; (focus ((repeat (first | apply Has.head | apply Take.head | apply Put.head | apply Has.tail | apply Take.tail | apply Put.tail)); done)); rfl; rfl; clear hS; intro w1 hS; refine ⟨(by first | exact hS | exact hS.tail | exact hS.sublist (by repeat (first | exact List.Sublist.refl _ | refine .cons_cons _ ?_ | refine .cons _ ?_))), ?_⟩)
              all_goals (apply RH.take (i := 7) (listed := (bm 9 127)) (listed' := (bm 9 255)); rfl; kernel_rfl; kernel_rfl; (apply Still.assign; rfl); (first | exact hS | exact hS.tail | exact hS.sublist (by repeat (first | exact List.Sublist.refl _ | refine .cons_cons _ ?_ | refine .cons _ ?_))); rfl)
              all_goals (apply RH.take (i := 8) (listed := (bm 9 255)) (listed' := (bm 9 511)); rfl; kernel_rfl; kernel_rfl; (apply Still.assign; rfl); (first | exact hS | exact hS.tail | exact hS.sublist (by repeat (first | exact List.Sublist.refl _ | refine .cons_cons _ ?_ | refine .cons _ ?_))); rfl)
              all_goals (apply RH.done (listed := (bm 9 511)); kernel_rfl)
              all_goals (exact ⟨(_, _, _), (by focus ((repeat (first | exact .nil | refine .cons rfl ?_)); done)), hS.picks (by focus ((repeat (first | apply Picks.all | apply Picks.nil | (refine Picks.cons (by repeat (first | apply Take.head | apply Take.tail)) ?_) | apply Picks.drop)); done))⟩)
    · clear hS
      rintro ⟨gk, ck, sp⟩ w1 hS
      repeat' first
        | refine Run.seq ?_
        | refine Run.region ?_
        | (refine RO.split ?_ ?_ <;> intro hc <;> try (first | (exfalso; omega) | exact absurd rfl hc | exact Bool.noConfusion hc))
        | refine RO.nil ?_
        | refine RO.still (by exact Still.any) hS rfl ?_
        | (apply RO.op; apply OP.box hS; rfl; rfl; rfl; clear hS; intro b w1 hS)
        | (apply RO.op; apply OP.alloc hS; rfl; rfl; rfl; clear hS; intro b w1 hS)
        | (apply RO.op; apply OP.store hS; rfl; rfl; rfl; rfl; rfl; (focus ((repeat (first | apply Has.head | apply Take.head | apply Put.head | apply Has.tail | apply Take.tail | apply Put.tail)); done)); rfl; rfl; clear hS; intro w1 hS)
        | (apply RO.op; apply OP.buildSlice hS; rfl; rfl; (exact eqAuto); rfl; rfl; rfl; rfl; rfl; clear hS; intro b w1 hS)
        | (apply RO.op; apply OP.makeMap hS; rfl; clear hS; intro b w1 hS)
        | refine RO.yes rfl rfl ?_
        | refine RO.no rfl rfl rfl rfl ?_
        | refine RO.noUndef rfl rfl rfl ?_
        | refine RO.noNone rfl rfl rfl ?_
        | refine Run.cond_true rfl ?_
        | refine Run.cond_false rfl ?_
        | refine Run.skip ?_
        | refine Run.block ?_
        | refine Run.inBlock ?_
        | refine Run.exit rfl ?_
      refine Run.ret Try.func13 rfl (.tmp rfl (.cell rfl (by first | exact run_loadAgg rfl rfl (hS.rd (by exact Rd.any)) (by rfl) (by rfl) | exact run_loadScalar rfl (cell_of (hS.rd (by exact Rd.any)) (by rfl))) (.tmp rfl (.tmp rfl .nil)))) ?_
      exact ⟨kb, p, r, c, spare, gk, ck, sp, rfl, hS.picks (by focus ((repeat (first | apply Picks.all | apply Picks.nil | (refine Picks.cons (by repeat (first | apply Take.head | apply Take.tail)) ?_) | apply Picks.drop)); done))⟩
end
end Go.Proofs.Ytjkfbimldgegmaa
