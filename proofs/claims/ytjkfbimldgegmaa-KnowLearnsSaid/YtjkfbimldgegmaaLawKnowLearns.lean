/-
  Behind any refs that are learned the document's terms are known, and no others; what was heard is told in order: undertonelaw03.KnowLearns is true.
-/
import Derived.Test.YtjkfbimldgegmaaKnow14
namespace Go.Proofs.Ytjkfbimldgegmaa
set_option maxRecDepth 8000
set_option linter.unusedSimpArgs false
set_option linter.unusedVariables false
open Go Go.RowKit

/-- What is known of the first i terms, in order. -/
def kto (K : Int → Bool) (i : Nat) : List Int := ((List.range i).map fun j : Nat => (j : Int)).filter K
theorem kto_succ (K : Int → Bool) (i : Nat) : kto K (i + 1) = kto K i ++ if K i = true then [(i : Int)] else [] := by
  unfold kto
  rw [List.range_succ, List.map_append, List.filter_append]
  congr 1
  cases h : K i <;> simp [h]
theorem kto_at {K : Int → Bool} {i n : Nat} (h : i < n) (hk : K i = true) : (kto K n)[(kto K i).length]? = some (i : Int) := by
  induction n with
  | zero => omega
  | succ n ih =>
    rw [kto_succ]
    by_cases e : i = n
    · subst e
      rw [if_pos hk, List.getElem?_append_right (Nat.le_refl _), Nat.sub_self]; rfl
    · have := ih (by omega)
      rw [List.getElem?_append_left (List.getElem?_eq_some_iff.1 this).1]
      exact this
theorem filter_at {p : Int → Bool} {l : List Int} {i : Nat} (h : i < l.length) (hp : p l[i] = true) : (l.filter p)[((l.take i).filter p).length]? = some l[i] := by
  have e : l.filter p = (l.take i).filter p ++ (l.drop i).filter p := by rw [← List.filter_append, List.take_append_drop]
  rw [e, List.getElem?_append_right (Nat.le_refl _), Nat.sub_self, List.drop_eq_getElem_cons h, List.filter_cons, if_pos hp]
  rfl

section
variable {we w : World} {ρ : List (Nat × Obj)} {σ F : List HP} {p lim : Nat} {L : List Nd}

set_option maxHeartbeats 8000000 in
theorem knowLearns_law {l : List Nd} {v : Value} {refs : List Int} {u : Value} (hl : Sl ρ ndL 5 v l) (hq : ∀ a ∈ l, 0 ≤ a.n ∧ a.n ≤ 18446744073709551615) (hr : Sl ρ intL 1 u refs) (hq2 : ∀ a ∈ refs, True) (hS : St we ρ σ w) :
    Cl Try.prog 9 [v, u] w fun v w' => v = .bool true ∧ St we ρ σ w' := by
  obtain ⟨sp1, cap1, rfl, hle1, hcm1, -⟩ := hl.val
  obtain ⟨sp2, cap2, rfl, hle2, hcm2, -⟩ := hr.val
  refine Run.calls2 (n := 105) Try.func9 rfl rfl rfl ?_
  by_cases h30 : l.length ≤ 30 ∧ refs.length ≤ 30
  rotate_left
  · have hfew := decide_eq_false h30
    repeat' first
      | (apply RO.op; apply OP.callF; rfl; rfl; rfl; show Cl _ 11 _ _ _; exact few_calls (l := l) (refs := refs) hS; clear hS; rintro v w1 ⟨rfl, hS⟩; rw [hfew])
      | (apply OP.callF; rfl; rfl; rfl; show Cl _ 11 _ _ _; exact few_calls (l := l) (refs := refs) hS; clear hS; rintro v w1 ⟨rfl, hS⟩; rw [hfew]; refine ⟨(by first | exact hS | exact hS.tail | exact hS.sublist (by repeat (first | exact List.Sublist.refl _ | refine .cons_cons _ ?_ | refine .cons _ ?_))), ?_⟩)
      | (apply RO.op; apply OP.callF; rfl; rfl; rfl; show Cl _ 12 _ _ _; exact kawake_calls hS; clear hS; rintro v w1 ⟨rfl, hS⟩)
      | (apply OP.callF; rfl; rfl; rfl; show Cl _ 12 _ _ _; exact kawake_calls hS; clear hS; rintro v w1 ⟨rfl, hS⟩; refine ⟨(by first | exact hS | exact hS.tail | exact hS.sublist (by repeat (first | exact List.Sublist.refl _ | refine .cons_cons _ ?_ | refine .cons _ ?_))), ?_⟩)
      | refine Run.seq ?_
      | refine Run.region ?_
      | (refine RO.split ?_ ?_ <;> intro hc <;> try (first | (exfalso; omega) | exact absurd rfl hc | exact Bool.noConfusion hc))
      | refine RO.nil ?_
      | refine RO.still (by exact Still.any) hS rfl ?_
      | (apply RO.op; apply OP.box hS; rfl; rfl; rfl; clear hS; intro b w1 hS)
      | (apply RO.op; apply OP.alloc hS; rfl; rfl; rfl; clear hS; intro b w1 hS)
      | (apply RO.op; apply OP.store hS; rfl; rfl; rfl; rfl; rfl; (focus ((repeat (first | apply Has.head | apply Take.head | apply Put.head | apply Has.tail | apply Take.tail | apply Put.tail)); done)); rfl; rfl; clear hS; intro w1 hS)
      | (apply RO.op; apply OP.buildSlice hS; rfl; rfl; (exact eqAuto); rfl; rfl; rfl; rfl; rfl; clear hS; intro b w1 hS)
      | (apply RO.op; apply OP.makeMap hS; rfl; clear hS; intro b w1 hS)
      | refine RO.yes rfl rfl ?_
      | refine RO.no rfl rfl rfl rfl ?_
      | refine RO.noUndef rfl rfl rfl ?_
      | refine RO.noNone rfl rfl rfl ?_
      | refine Run.cond_true rfl ?_
      | refine Run.cond_false rfl ?_
      | refine Run.skip ?_
      | refine Run.block ?_
      | refine Run.inBlock ?_
      | refine Run.exit rfl ?_
    refine Run.ret Try.func9 rfl (.tmp rfl .nil) ?_
    exact ⟨rfl, hS.picks (by focus ((repeat (first | apply Picks.all | apply Picks.nil | (refine Picks.cons (by repeat (first | apply Take.head | apply Take.tail)) ?_) | apply Picks.drop)); done))⟩
  have hfew := decide_eq_true h30
  obtain ⟨h1, h2⟩ := h30
  have h40 : l.length ≤ 40 := by omega
  have g := builtUp_good (limit := 100) l
  have hh := learnAll_has g (K := fun _ => false) (by simp) refs
  have hclo := learnAll_closed (L := builtUp (room 100) l) refs
  have hflen : (refs.filter (has (builtUp (room 100) l))).length ≤ 30 := by
    have := List.length_filter_le (has (builtUp (room 100) l)) refs
    omega
  generalize hL : builtUp (room 100) l = L at g hh hclo hflen
  generalize hK : learnAll L refs (fun _ => false) = K at hh hclo
  have hlim := g.lim
  have hlen := g.len
  have hlearned : ∀ {σ : List HP} {w : World}, St we ρ σ w → _ := fun {σ w} hS => learned_calls (we := we) (ρ := ρ) (σ := σ) (w := w) h40 h2 hl hr hS
  simp only [hL, hK] at hlearned
  repeat' first
    | (apply RO.op; apply OP.callF; rfl; rfl; rfl; show Cl _ 11 _ _ _; exact few_calls (l := l) (refs := refs) hS; clear hS; rintro v w1 ⟨rfl, hS⟩; rw [hfew])
    | (apply OP.callF; rfl; rfl; rfl; show Cl _ 11 _ _ _; exact few_calls (l := l) (refs := refs) hS; clear hS; rintro v w1 ⟨rfl, hS⟩; rw [hfew]; refine ⟨(by first | exact hS | exact hS.tail | exact hS.sublist (by repeat (first | exact List.Sublist.refl _ | refine .cons_cons _ ?_ | refine .cons _ ?_))), ?_⟩)
    | (apply RO.op; apply OP.callF; rfl; rfl; rfl; show Cl _ 13 _ _ _; exact hlearned hS; clear hS; rintro v w1 ⟨kb, p, r, c, spare, gk, ck, sp, rfl, hS⟩)
    | (apply OP.callF; rfl; rfl; rfl; show Cl _ 13 _ _ _; exact hlearned hS; clear hS; rintro v w1 ⟨kb, p, r, c, spare, gk, ck, sp, rfl, hS⟩; refine ⟨(by first | exact hS | exact hS.tail | exact hS.sublist (by repeat (first | exact List.Sublist.refl _ | refine .cons_cons _ ?_ | refine .cons _ ?_))), ?_⟩)
    | (apply RO.op; apply OP.callF; rfl; rfl; rfl; show Cl _ 27 _ _ _; exact known_calls hh (by omega) (hS.take (by focus ((repeat (first | apply Has.head | apply Take.head | apply Put.head | apply Has.tail | apply Take.tail | apply Put.tail)); done))); clear hS; intro v w1 hS; rw [show knownL L K = kto K L.length from rfl] at hS; obtain ⟨ρ1, o1, s1, hT⟩ := vec_freeze intL_length hS; clear hS; have hS := hT; clear hT; obtain ⟨pa, ca, rfl, ka1, ka2, _⟩ := s1.val)
    | (apply OP.callF; rfl; rfl; rfl; show Cl _ 27 _ _ _; exact known_calls hh (by omega) (hS.take (by focus ((repeat (first | apply Has.head | apply Take.head | apply Put.head | apply Has.tail | apply Take.tail | apply Put.tail)); done))); clear hS; intro v w1 hS; rw [show knownL L K = kto K L.length from rfl] at hS; obtain ⟨ρ1, o1, s1, hT⟩ := vec_freeze intL_length hS; clear hS; have hS := hT; clear hT; obtain ⟨pa, ca, rfl, ka1, ka2, _⟩ := s1.val; refine ⟨(by first | exact hS | exact hS.tail | exact hS.sublist (by repeat (first | exact List.Sublist.refl _ | refine .cons_cons _ ?_ | refine .cons _ ?_))), ?_⟩)
    | refine Run.seq ?_
    | refine Run.region ?_
    | (refine RO.split ?_ ?_ <;> intro hc <;> try (first | (exfalso; omega) | exact absurd rfl hc | exact Bool.noConfusion hc))
    | refine RO.nil ?_
    | refine RO.still (by exact Still.any) hS rfl ?_
    | (apply RO.op; apply OP.box hS; rfl; rfl; rfl; clear hS; intro b w1 hS)
    | (apply RO.op; apply OP.alloc hS; rfl; rfl; rfl; clear hS; intro b w1 hS)
    | (apply RO.op; apply OP.store hS; rfl; rfl; rfl; rfl; rfl; (focus ((repeat (first | apply Has.head | apply Take.head | apply Put.head | apply Has.tail | apply Take.tail | apply Put.tail)); done)); rfl; rfl; clear hS; intro w1 hS)
    | (apply RO.op; apply OP.buildSlice hS; rfl; rfl; (exact eqAuto); rfl; rfl; rfl; rfl; rfl; clear hS; intro b w1 hS)
    | (apply RO.op; apply OP.makeMap hS; rfl; clear hS; intro b w1 hS)
    | refine RO.yes rfl rfl ?_
    | refine RO.no rfl rfl rfl rfl ?_
    | refine RO.noUndef rfl rfl rfl ?_
    | refine RO.noNone rfl rfl rfl ?_
    | refine Run.cond_true rfl ?_
    | refine Run.cond_false rfl ?_
    | refine Run.skip ?_
    | refine Run.block ?_
    | refine Run.inBlock ?_
    | refine Run.exit rfl ?_
  unfold maxLen at ka2
  refine Run.while (fun i : Nat => [(1, .slice sp2 refs.length cap2), (5, .pointer (some ⟨kb, 0, none⟩)), (6, .pointer (some ⟨b, 0, none⟩)), (7, .slice (some ⟨gk, 0, none⟩) L.length ck), (9, .int .i64 (kto K i).length), (10, .slice pa (kto K L.length).length ca), (35, .int .i64 L.length), (36, .int .i64 i)])
    (fun i w => i ≤ L.length ∧ St we ρ1 (KN kb p (refs.filter (has L)) K :: Row b [.int .i64 (room 100), .slice (some ⟨r, 0, none⟩) L.length c] 29 :: Row gk (boolsL L K ++ sp) 4 :: σ) w) (fun i => L.length - i) 0
    ⟨by omega, hS.picks (by focus ((repeat (first | apply Picks.all | apply Picks.nil | (refine Picks.cons (by repeat (first | apply Take.head | apply Take.tail)) ?_) | apply Picks.drop)); done))⟩ (by focus ((repeat (first | exact .nil | refine .cons rfl ?_)); done)) ?_
  clear hS
  rintro i w ⟨hi, hS⟩ ih
  by_cases hlt : i < L.length
  · have hih : has L (i : Int) = true := has_of hlt
    have fk : (boolsL L K ++ sp)[i]? = some (.bool (K i)) := boolsL_get (x := (i : Int)) hih
    have e0 := kto_succ K i
    cases hk : K (i : Nat) with
    | false =>
      rw [hk] at fk
      rw [hk, if_neg (by simp), List.append_nil] at e0
      have e1 : (kto K (i + 1)).length = (kto K i).length := by rw [e0]
      repeat' first
        | (refine RO.still (by apply Still.load; rfl; rfl; (exact Rd.any); exact fk) hS rfl ?_)
        | (refine Run.regionQ_of hS (by rfl) (by kernel_rfl) ?_; clear hS)
        | (refine RQ.still (by apply Still.load; rfl; rfl; (exact Rd.any); exact fk) rfl ?_)
        | (apply RQ.callF; rfl; rfl; rfl; (show ∀ w, _ → Cl _ 16 _ _ _; exact fun w hS => (knows_is hk (hS.take (by focus ((repeat (first | apply Has.head | apply Take.head | apply Put.head | apply Has.tail | apply Take.tail | apply Put.tail)); done)))).at (by focus ((repeat (first | apply Has.head | apply Take.head | apply Put.head | apply Has.tail | apply Take.tail | apply Put.tail)); done))))
        | (refine RQ.split ?_ ?_ <;> intro hc <;> try (first | (exfalso; omega) | exact absurd rfl hc | exact Bool.noConfusion hc))
        | (refine RQ.nil ?_; (try clear hS); intro w1 hS)
        | refine RQ.still (by exact Still.any) rfl ?_
        | refine RQ.yes rfl rfl ?_
        | refine RQ.no rfl rfl rfl rfl ?_
        | refine RQ.noUndef rfl rfl rfl ?_
        | refine Run.seq ?_
        | refine Run.region ?_
        | (refine RO.split ?_ ?_ <;> intro hc <;> try (first | (exfalso; omega) | exact absurd rfl hc | exact Bool.noConfusion hc))
        | refine RO.nil ?_
        | refine RO.still (by exact Still.any) hS rfl ?_
        | (apply RO.op; apply OP.box hS; rfl; rfl; rfl; clear hS; intro b w1 hS)
        | (apply RO.op; apply OP.alloc hS; rfl; rfl; rfl; clear hS; intro b w1 hS)
        | (apply RO.op; apply OP.store hS; rfl; rfl; rfl; rfl; rfl; (focus ((repeat (first | apply Has.head | apply Take.head | apply Put.head | apply Has.tail | apply Take.tail | apply Put.tail)); done)); rfl; rfl; clear hS; intro w1 hS)
        | (apply RO.op; apply OP.buildSlice hS; rfl; rfl; (exact eqAuto); rfl; rfl; rfl; rfl; rfl; clear hS; intro b w1 hS)
        | (apply RO.op; apply OP.makeMap hS; rfl; clear hS; intro b w1 hS)
        | refine RO.yes rfl rfl ?_
        | refine RO.no rfl rfl rfl rfl ?_
        | refine RO.noUndef rfl rfl rfl ?_
        | refine RO.noNone rfl rfl rfl ?_
        | refine Run.cond_true rfl ?_
        | refine Run.cond_false rfl ?_
        | refine Run.skip ?_
        | refine Run.block ?_
        | refine Run.inBlock ?_
        | refine Run.exit rfl ?_
      refine Run.weaken (by simp only [e1]; focus ((repeat (first | exact .nil | refine .cons rfl ?_)); done)) (ih (i + 1) _ ⟨by omega, hS⟩ (by omega))
    | true =>
      rw [hk] at fk
      rw [hk, if_pos rfl] at e0
      have e1 : (kto K (i + 1)).length = (kto K i).length + 1 := by rw [e0, List.length_append]; rfl
      have hat : (kto K L.length)[(kto K i).length]? = some (i : Int) := kto_at hlt hk
      have hatl : (kto K i).length < (kto K L.length).length := (List.getElem?_eq_some_iff.1 hat).1
      have hatv : (kto K L.length)[(kto K i).length] = (i : Int) := (List.getElem?_eq_some_iff.1 hat).2
      obtain ⟨b1, o1', cs1, el1, f1, rfl, m1, hx1⟩ := s1.int hatl
      rw [hatv] at hx1
      clear hatv hat
      repeat' first
        | (refine RO.still (by apply Still.load; rfl; rfl; (exact Rd.any); exact fk) hS rfl ?_)
        | (refine RO.still (by apply Still.load; rfl; rfl; exact Rd.ro m1; exact hx1) hS rfl ?_)
        | (refine Run.regionQ_of hS (by rfl) (by kernel_rfl) ?_; clear hS)
        | (refine RQ.still (by apply Still.load; rfl; rfl; (exact Rd.any); exact fk) rfl ?_)
        | (apply RQ.callF; rfl; rfl; rfl; (show ∀ w, _ → Cl _ 16 _ _ _; exact fun w hS => (knows_is hk (hS.take (by focus ((repeat (first | apply Has.head | apply Take.head | apply Put.head | apply Has.tail | apply Take.tail | apply Put.tail)); done)))).at (by focus ((repeat (first | apply Has.head | apply Take.head | apply Put.head | apply Has.tail | apply Take.tail | apply Put.tail)); done))))
        | (refine RQ.split ?_ ?_ <;> intro hc <;> try (first | (exfalso; omega) | exact absurd rfl hc | exact Bool.noConfusion hc))
        | (refine RQ.nil ?_; (try clear hS); intro w1 hS)
        | refine RQ.still (by exact Still.any) rfl ?_
        | refine RQ.yes rfl rfl ?_
        | refine RQ.no rfl rfl rfl rfl ?_
        | refine RQ.noUndef rfl rfl rfl ?_
        | refine Run.seq ?_
        | refine Run.region ?_
        | (refine RO.split ?_ ?_ <;> intro hc <;> try (first | (exfalso; omega) | exact absurd rfl hc | exact Bool.noConfusion hc))
        | refine RO.nil ?_
        | refine RO.still (by exact Still.any) hS rfl ?_
        | (apply RO.op; apply OP.box hS; rfl; rfl; rfl; clear hS; intro b w1 hS)
        | (apply RO.op; apply OP.alloc hS; rfl; rfl; rfl; clear hS; intro b w1 hS)
        | (apply RO.op; apply OP.store hS; rfl; rfl; rfl; rfl; rfl; (focus ((repeat (first | apply Has.head | apply Take.head | apply Put.head | apply Has.tail | apply Take.tail | apply Put.tail)); done)); rfl; rfl; clear hS; intro w1 hS)
        | (apply RO.op; apply OP.buildSlice hS; rfl; rfl; (exact eqAuto); rfl; rfl; rfl; rfl; rfl; clear hS; intro b w1 hS)
        | (apply RO.op; apply OP.makeMap hS; rfl; clear hS; intro b w1 hS)
        | refine RO.yes rfl rfl ?_
        | refine RO.no rfl rfl rfl rfl ?_
        | refine RO.noUndef rfl rfl rfl ?_
        | refine RO.noNone rfl rfl rfl ?_
        | refine Run.cond_true rfl ?_
        | refine Run.cond_false rfl ?_
        | refine Run.skip ?_
        | refine Run.block ?_
        | refine Run.inBlock ?_
        | refine Run.exit rfl ?_
      refine Run.weaken (by simp only [e1]; focus ((repeat (first | exact .nil | refine .cons rfl ?_)); done)) (ih (i + 1) _ ⟨by omega, hS⟩ (by omega))
  · obtain rfl : i = L.length := by omega
    have hwl : ∀ {σ : List HP} {w : World} {G : List HP}, St we ρ1 (KN kb p (refs.filter (has L)) K :: G) w → _ := fun {σ w G} hS => heard_calls (we := we) (ρ := ρ1) (F := G) (w := w) (by omega) hS
    repeat' first
      | (apply RO.op; apply OP.callF; rfl; rfl; rfl; show Cl _ 23 _ _ _; exact hwl (σ := []) (hS.take (by focus ((repeat (first | apply Has.head | apply Take.head | apply Put.head | apply Has.tail | apply Take.tail | apply Put.tail)); done))); clear hS; intro v w1 hS; obtain ⟨ρ2, o2, s2, hT⟩ := vec_freeze intL_length hS; clear hS; have hS := hT; clear hT; obtain ⟨ph, ch, rfl, kc1, kc2, _⟩ := s2.val)
      | (apply OP.callF; rfl; rfl; rfl; show Cl _ 23 _ _ _; exact hwl (σ := []) (hS.take (by focus ((repeat (first | apply Has.head | apply Take.head | apply Put.head | apply Has.tail | apply Take.tail | apply Put.tail)); done))); clear hS; intro v w1 hS; obtain ⟨ρ2, o2, s2, hT⟩ := vec_freeze intL_length hS; clear hS; have hS := hT; clear hT; obtain ⟨ph, ch, rfl, kc1, kc2, _⟩ := s2.val; refine ⟨(by first | exact hS | exact hS.tail | exact hS.sublist (by repeat (first | exact List.Sublist.refl _ | refine .cons_cons _ ?_ | refine .cons _ ?_))), ?_⟩)
      | refine Run.seq ?_
      | refine Run.region ?_
      | (refine RO.split ?_ ?_ <;> intro hc <;> try (first | (exfalso; omega) | exact absurd rfl hc | exact Bool.noConfusion hc))
      | refine RO.nil ?_
      | refine RO.still (by exact Still.any) hS rfl ?_
      | (apply RO.op; apply OP.box hS; rfl; rfl; rfl; clear hS; intro b w1 hS)
      | (apply RO.op; apply OP.alloc hS; rfl; rfl; rfl; clear hS; intro b w1 hS)
      | (apply RO.op; apply OP.store hS; rfl; rfl; rfl; rfl; rfl; (focus ((repeat (first | apply Has.head | apply Take.head | apply Put.head | apply Has.tail | apply Take.tail | apply Put.tail)); done)); rfl; rfl; clear hS; intro w1 hS)
      | (apply RO.op; apply OP.buildSlice hS; rfl; rfl; (exact eqAuto); rfl; rfl; rfl; rfl; rfl; clear hS; intro b w1 hS)
      | (apply RO.op; apply OP.makeMap hS; rfl; clear hS; intro b w1 hS)
      | refine RO.yes rfl rfl ?_
      | refine RO.no rfl rfl rfl rfl ?_
      | refine RO.noUndef rfl rfl rfl ?_
      | refine RO.noNone rfl rfl rfl ?_
      | refine Run.cond_true rfl ?_
      | refine Run.cond_false rfl ?_
      | refine Run.skip ?_
      | refine Run.block ?_
      | refine Run.inBlock ?_
      | refine Run.exit rfl ?_
    unfold maxLen at kc2
    refine Run.while (fun i : Nat => [(6, .pointer (some ⟨b, 0, none⟩)), (9, .int .i64 (kto K L.length).length), (10, .slice pa (kto K L.length).length ca), (12, .slice ph (refs.filter (has L)).length ch), (13, .int .i64 ((refs.take i).filter (has L)).length), (68, .slice sp2 refs.length cap2), (69, .int .i64 refs.length), (70, .int .i64 i)])
      (fun i w => i ≤ refs.length ∧ St we ρ2 (Row b [.int .i64 (room 100), .slice (some ⟨r, 0, none⟩) L.length c] 29 :: σ) w) (fun i => refs.length - i) 0
      ⟨by omega, hS.picks (by focus ((repeat (first | apply Picks.all | apply Picks.nil | (refine Picks.cons (by repeat (first | apply Take.head | apply Take.tail)) ?_) | apply Picks.drop)); done))⟩ (by focus ((repeat (first | exact .nil | refine .cons rfl ?_)); done)) ?_
    clear hS ih hlt hi
    rintro i w ⟨hi, hS⟩ ih
    by_cases hlt : i < refs.length
    · obtain ⟨b1, o1', cs1, el1, f1, rfl, m1, hx1⟩ := hr.int hlt
      replace m1 := o2.sub _ (o1.sub _ m1)
      have e0 := filter_snoc (p := has L) hlt
      have hat := filter_at (p := has L) hlt
      generalize refs[i] = x at hx1 e0 hat
      cases hx : has L x with
      | false =>
        rw [if_neg (by rw [hx]; simp), List.append_nil] at e0
        repeat' first
          | (refine RO.still (by apply Still.load; rfl; rfl; exact Rd.ro m1; exact hx1) hS rfl ?_)
          | (apply RO.op; apply OP.callF; rfl; rfl; rfl; show Cl _ 21 _ _ _; exact refHas_is hx hS; clear hS; rintro v w1 ⟨rfl, hS⟩)
          | (apply OP.callF; rfl; rfl; rfl; show Cl _ 21 _ _ _; exact refHas_is hx hS; clear hS; rintro v w1 ⟨rfl, hS⟩; refine ⟨(by first | exact hS | exact hS.tail | exact hS.sublist (by repeat (first | exact List.Sublist.refl _ | refine .cons_cons _ ?_ | refine .cons _ ?_))), ?_⟩)
          | refine Run.seq ?_
          | refine Run.region ?_
          | (refine RO.split ?_ ?_ <;> intro hc <;> try (first | (exfalso; omega) | exact absurd rfl hc | exact Bool.noConfusion hc))
          | refine RO.nil ?_
          | refine RO.still (by exact Still.any) hS rfl ?_
          | (apply RO.op; apply OP.box hS; rfl; rfl; rfl; clear hS; intro b w1 hS)
          | (apply RO.op; apply OP.alloc hS; rfl; rfl; rfl; clear hS; intro b w1 hS)
          | (apply RO.op; apply OP.store hS; rfl; rfl; rfl; rfl; rfl; (focus ((repeat (first | apply Has.head | apply Take.head | apply Put.head | apply Has.tail | apply Take.tail | apply Put.tail)); done)); rfl; rfl; clear hS; intro w1 hS)
          | (apply RO.op; apply OP.buildSlice hS; rfl; rfl; (exact eqAuto); rfl; rfl; rfl; rfl; rfl; clear hS; intro b w1 hS)
          | (apply RO.op; apply OP.makeMap hS; rfl; clear hS; intro b w1 hS)
          | refine RO.yes rfl rfl ?_
          | refine RO.no rfl rfl rfl rfl ?_
          | refine RO.noUndef rfl rfl rfl ?_
          | refine RO.noNone rfl rfl rfl ?_
          | refine Run.cond_true rfl ?_
          | refine Run.cond_false rfl ?_
          | refine Run.skip ?_
          | refine Run.block ?_
          | refine Run.inBlock ?_
          | refine Run.exit rfl ?_
        refine Run.weaken (by simp only [e0]; focus ((repeat (first | exact .nil | refine .cons rfl ?_)); done)) (ih (i + 1) _ ⟨by omega, hS.picks (by focus ((repeat (first | apply Picks.all | apply Picks.nil | (refine Picks.cons (by repeat (first | apply Take.head | apply Take.tail)) ?_) | apply Picks.drop)); done))⟩ (by omega))
      | true =>
        rw [if_pos hx] at e0
        have e1 : ((refs.take (i + 1)).filter (has L)).length = ((refs.take i).filter (has L)).length + 1 := by rw [e0, List.length_append]; rfl
        replace hat := hat hx
        have hatl : ((refs.take i).filter (has L)).length < (refs.filter (has L)).length := (List.getElem?_eq_some_iff.1 hat).1
        have hatv : (refs.filter (has L))[((refs.take i).filter (has L)).length] = x := (List.getElem?_eq_some_iff.1 hat).2
        obtain ⟨b2, o2', cs2, el2, f2, rfl, m2, hx2⟩ := s2.int hatl
        rw [hatv] at hx2
        clear hatv hat
        repeat' first
          | (refine RO.still (by apply Still.load; rfl; rfl; exact Rd.ro m1; exact hx1) hS rfl ?_)
          | (refine RO.still (by apply Still.load; rfl; rfl; exact Rd.ro m2; exact hx2) hS rfl ?_)
          | (apply RO.op; apply OP.callF; rfl; rfl; rfl; show Cl _ 21 _ _ _; exact refHas_is hx hS; clear hS; rintro v w1 ⟨rfl, hS⟩)
          | (apply OP.callF; rfl; rfl; rfl; show Cl _ 21 _ _ _; exact refHas_is hx hS; clear hS; rintro v w1 ⟨rfl, hS⟩; refine ⟨(by first | exact hS | exact hS.tail | exact hS.sublist (by repeat (first | exact List.Sublist.refl _ | refine .cons_cons _ ?_ | refine .cons _ ?_))), ?_⟩)
          | refine Run.seq ?_
          | refine Run.region ?_
          | (refine RO.split ?_ ?_ <;> intro hc <;> try (first | (exfalso; omega) | exact absurd rfl hc | exact Bool.noConfusion hc))
          | refine RO.nil ?_
          | refine RO.still (by exact Still.any) hS rfl ?_
          | (apply RO.op; apply OP.box hS; rfl; rfl; rfl; clear hS; intro b w1 hS)
          | (apply RO.op; apply OP.alloc hS; rfl; rfl; rfl; clear hS; intro b w1 hS)
          | (apply RO.op; apply OP.store hS; rfl; rfl; rfl; rfl; rfl; (focus ((repeat (first | apply Has.head | apply Take.head | apply Put.head | apply Has.tail | apply Take.tail | apply Put.tail)); done)); rfl; rfl; clear hS; intro w1 hS)
          | (apply RO.op; apply OP.buildSlice hS; rfl; rfl; (exact eqAuto); rfl; rfl; rfl; rfl; rfl; clear hS; intro b w1 hS)
          | (apply RO.op; apply OP.makeMap hS; rfl; clear hS; intro b w1 hS)
          | refine RO.yes rfl rfl ?_
          | refine RO.no rfl rfl rfl rfl ?_
          | refine RO.noUndef rfl rfl rfl ?_
          | refine RO.noNone rfl rfl rfl ?_
          | refine Run.cond_true rfl ?_
          | refine Run.cond_false rfl ?_
          | refine Run.skip ?_
          | refine Run.block ?_
          | refine Run.inBlock ?_
          | refine Run.exit rfl ?_
        refine Run.weaken (by simp only [e1]; focus ((repeat (first | exact .nil | refine .cons rfl ?_)); done)) (ih (i + 1) _ ⟨by omega, hS.picks (by focus ((repeat (first | apply Picks.all | apply Picks.nil | (refine Picks.cons (by repeat (first | apply Take.head | apply Take.tail)) ?_) | apply Picks.drop)); done))⟩ (by omega))
    · obtain rfl : i = refs.length := by omega
      rw [List.take_of_length_le (Nat.le_refl _)]
      repeat' first
        | (apply RO.op; apply OP.callF; rfl; rfl; rfl; show Cl _ 12 _ _ _; exact kawake_calls hS; clear hS; rintro v w1 ⟨rfl, hS⟩)
        | (apply OP.callF; rfl; rfl; rfl; show Cl _ 12 _ _ _; exact kawake_calls hS; clear hS; rintro v w1 ⟨rfl, hS⟩; refine ⟨(by first | exact hS | exact hS.tail | exact hS.sublist (by repeat (first | exact List.Sublist.refl _ | refine .cons_cons _ ?_ | refine .cons _ ?_))), ?_⟩)
        | refine Run.seq ?_
        | refine Run.region ?_
        | (refine RO.split ?_ ?_ <;> intro hc <;> try (first | (exfalso; omega) | exact absurd rfl hc | exact Bool.noConfusion hc))
        | refine RO.nil ?_
        | refine RO.still (by exact Still.any) hS rfl ?_
        | (apply RO.op; apply OP.box hS; rfl; rfl; rfl; clear hS; intro b w1 hS)
        | (apply RO.op; apply OP.alloc hS; rfl; rfl; rfl; clear hS; intro b w1 hS)
        | (apply RO.op; apply OP.store hS; rfl; rfl; rfl; rfl; rfl; (focus ((repeat (first | apply Has.head | apply Take.head | apply Put.head | apply Has.tail | apply Take.tail | apply Put.tail)); done)); rfl; rfl; clear hS; intro w1 hS)
        | (apply RO.op; apply OP.buildSlice hS; rfl; rfl; (exact eqAuto); rfl; rfl; rfl; rfl; rfl; clear hS; intro b w1 hS)
        | (apply RO.op; apply OP.makeMap hS; rfl; clear hS; intro b w1 hS)
        | refine RO.yes rfl rfl ?_
        | refine RO.no rfl rfl rfl rfl ?_
        | refine RO.noUndef rfl rfl rfl ?_
        | refine RO.noNone rfl rfl rfl ?_
        | refine Run.cond_true rfl ?_
        | refine Run.cond_false rfl ?_
        | refine Run.skip ?_
        | refine Run.block ?_
        | refine Run.inBlock ?_
        | refine Run.exit rfl ?_
      refine Run.ret Try.func9 rfl (.tmp rfl .nil) ?_
      exact ⟨rfl, o1.back (o2.back (hS.picks (by focus ((repeat (first | apply Picks.all | apply Picks.nil | (refine Picks.cons (by repeat (first | apply Take.head | apply Take.tail)) ?_) | apply Picks.drop)); done))))⟩
end
end Go.Proofs.Ytjkfbimldgegmaa
