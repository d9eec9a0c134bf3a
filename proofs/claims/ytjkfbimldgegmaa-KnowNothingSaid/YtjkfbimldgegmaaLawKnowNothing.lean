/-
  Who knows nothing can make what is made of Empty, Words, and the attacker's names, and nothing else: undertonelaw03.KnowNothing is true.
-/
import Derived.Test.YtjkfbimldgegmaaKnow14
namespace Go.Proofs.Ytjkfbimldgegmaa
set_option maxRecDepth 8000
set_option linter.unusedSimpArgs false
set_option linter.unusedVariables false
open Go Go.RowKit

theorem pubK_none {L : List Nd} {x : Int} : pubK L (fun _ => false) x = false := by
  unfold pubK
  split <;> rfl
theorem knownL_none (L : List Nd) : knownL L (fun _ => false) = [] := by simp [knownL]
theorem sl_none {ρ : List (Nat × Obj)} : Sl ρ intL 1 (.slice none 0 0) [] := ⟨⟨none, 0, rfl, by simp, by simp, fun h => by simp at h⟩⟩

section
variable {we w : World} {ρ : List (Nat × Obj)} {σ F : List HP} {p lim : Nat} {L : List Nd}

set_option maxHeartbeats 16000000 in
theorem knowNothing_law {l : List Nd} {v : Value} (hl : Sl ρ ndL 5 v l) (hq : ∀ a ∈ l, 0 ≤ a.n ∧ a.n ≤ 18446744073709551615) (hS : St we ρ σ w) :
    Cl Try.prog 10 [v] w fun v w' => v = .bool true ∧ St we ρ σ w' := by
  obtain ⟨sp1, cap1, rfl, hle1, hcm1, -⟩ := hl.val
  unfold maxLen at hcm1
  refine Run.calls1 (n := 122) Try.func10 rfl rfl rfl ?_
  by_cases h1 : l.length ≤ 30
  rotate_left
  · repeat' first
      | (apply RO.op; apply OP.callF; rfl; rfl; rfl; show Cl _ 12 _ _ _; exact kawake_calls hS; clear hS; rintro v w1 ⟨rfl, hS⟩)
      | (apply OP.callF; rfl; rfl; rfl; show Cl _ 12 _ _ _; exact kawake_calls hS; clear hS; rintro v w1 ⟨rfl, hS⟩; refine ⟨(by first | exact hS | exact hS.tail | exact hS.sublist (by repeat (first | exact List.Sublist.refl _ | refine .cons_cons _ ?_ | refine .cons _ ?_))), ?_⟩)
      | refine Run.seq ?_
      | refine Run.region ?_
      | (refine RO.split ?_ ?_ <;> intro hc <;> try (first | (exfalso; omega) | exact absurd rfl hc | exact Bool.noConfusion hc))
      | refine RO.nil ?_
      | refine RO.still (by exact Still.any) hS rfl ?_
      | (apply RO.op; apply OP.box hS; rfl; rfl; rfl; clear hS; intro b w1 hS)
      | (apply RO.op; apply OP.alloc hS; rfl; rfl; rfl; clear hS; intro b w1 hS)
      | (apply RO.op; apply OP.store hS; rfl; rfl; rfl; rfl; rfl; (focus ((repeat (first | apply Has.head | apply Take.head | apply Put.head | apply Has.tail | apply Take.tail | apply Put.tail)); done)); rfl; rfl; clear hS; intro w1 hS)
      | (apply RO.op; apply OP.buildSlice hS; rfl; rfl; (exact eqAuto); rfl; rfl; rfl; rfl; rfl; clear hS; intro b w1 hS)
      | (apply RO.op; apply OP.makeMap hS; rfl; clear hS; intro b w1 hS)
      | refine RO.yes rfl rfl ?_
      | refine RO.no rfl rfl rfl rfl ?_
      | refine RO.noUndef rfl rfl rfl ?_
      | refine RO.noNone rfl rfl rfl ?_
      | refine Run.cond_true rfl ?_
      | refine Run.cond_false rfl ?_
      | refine Run.skip ?_
      | refine Run.block ?_
      | refine Run.inBlock ?_
      | refine Run.exit rfl ?_
    refine Run.ret Try.func10 rfl (.tmp rfl .nil) ?_
    exact ⟨rfl, hS.picks (by focus ((repeat (first | apply Picks.all | apply Picks.nil | (refine Picks.cons (by repeat (first | apply Take.head | apply Take.tail)) ?_) | apply Picks.drop)); done))⟩
  have h40 : l.length ≤ 40 := by omega
  have g := builtUp_good (limit := 100) l
  have hlearned : ∀ {σ : List HP} {w : World}, St we ρ σ w → _ := fun {σ w} hS => learned_calls (we := we) (ρ := ρ) (σ := σ) (w := w) (refs := []) h40 (by simp) hl sl_none hS
  generalize hL : builtUp (room 100) l = L at g
  simp only [hL] at hlearned
  replace hlearned : ∀ {σ : List HP} {w : World}, St we ρ σ w → Cl Try.prog 13 [.slice sp1 l.length cap1, .slice none 0 0] w fun v w' => ∃ kb p r c spare gk ck sp, v = .tuple #[.pointer (some ⟨kb, 0, none⟩), raV (room 100) r L.length c, .slice (some ⟨gk, 0, none⟩) L.length ck, .bool true] ∧
      St we ρ (KN kb p [] (fun _ => false) :: Arena p (room 100) L :: Row r (flat L ++ spare) 37 :: Row gk (boolsL L (fun _ => false) ++ sp) 4 :: σ) w' := fun {σ w} hS => hlearned hS
  have hlim := g.lim
  have hlen := g.len
  have hh : ∀ x, (fun _ : Int => false) x = true → has L x = true := by simp
  repeat' first
    | (apply RO.op; apply OP.callF; rfl; rfl; rfl; show Cl _ 13 _ _ _; exact hlearned hS; clear hS; rintro v w1 ⟨kb, p, r, c, spare, gk, ck, sp, rfl, hS⟩)
    | (apply OP.callF; rfl; rfl; rfl; show Cl _ 13 _ _ _; exact hlearned hS; clear hS; rintro v w1 ⟨kb, p, r, c, spare, gk, ck, sp, rfl, hS⟩; refine ⟨(by first | exact hS | exact hS.tail | exact hS.sublist (by repeat (first | exact List.Sublist.refl _ | refine .cons_cons _ ?_ | refine .cons _ ?_))), ?_⟩)
    | (apply RO.op; apply OP.makeRow (z := .bool false) hS; rfl; rfl; rfl; rfl; rfl; rfl; rfl; (exact (by omega)); decide; rfl; clear hS; intro bo w1 hS)
    | refine Run.seq ?_
    | refine Run.region ?_
    | (refine RO.split ?_ ?_ <;> intro hc <;> try (first | (exfalso; omega) | exact absurd rfl hc | exact Bool.noConfusion hc))
    | refine RO.nil ?_
    | refine RO.still (by exact Still.any) hS rfl ?_
    | (apply RO.op; apply OP.box hS; rfl; rfl; rfl; clear hS; intro b w1 hS)
    | (apply RO.op; apply OP.alloc hS; rfl; rfl; rfl; clear hS; intro b w1 hS)
    | (apply RO.op; apply OP.store hS; rfl; rfl; rfl; rfl; rfl; (focus ((repeat (first | apply Has.head | apply Take.head | apply Put.head | apply Has.tail | apply Take.tail | apply Put.tail)); done)); rfl; rfl; clear hS; intro w1 hS)
    | (apply RO.op; apply OP.buildSlice hS; rfl; rfl; (exact eqAuto); rfl; rfl; rfl; rfl; rfl; clear hS; intro b w1 hS)
    | (apply RO.op; apply OP.makeMap hS; rfl; clear hS; intro b w1 hS)
    | refine RO.yes rfl rfl ?_
    | refine RO.no rfl rfl rfl rfl ?_
    | refine RO.noUndef rfl rfl rfl ?_
    | refine RO.noNone rfl rfl rfl ?_
    | refine Run.cond_true rfl ?_
    | refine Run.cond_false rfl ?_
    | refine Run.skip ?_
    | refine Run.block ?_
    | refine Run.inBlock ?_
    | refine Run.exit rfl ?_
  rw [← canTo_zero (K := fun _ => false)] at hS
  generalize hK : (fun _ : Int => false) = K at hS hh
  have hpub : ∀ x, pubK L K x = false := fun x => by rw [← hK]; exact pubK_none
  have hkn : knownL L K = [] := by rw [← hK]; exact knownL_none L
  refine Run.while (fun i : Nat => [(3, .pointer (some ⟨kb, 0, none⟩)), (4, .pointer (some ⟨b, 0, none⟩)), (7, .slice (some ⟨bo, 0, none⟩) L.length L.length), (28, .slice (some ⟨r, 0, none⟩) L.length c), (29, .int .i64 L.length), (30, .int .i64 i)])
    (fun i w => i ≤ L.length ∧ St we ρ (KN kb p [] K :: Arena p (room 100) L :: Row bo (boolsL L (canTo L K i)) 4 :: Row r (flat L ++ spare) 37 :: Row b [.int .i64 (room 100), .slice (some ⟨r, 0, none⟩) L.length c] 29 :: σ) w) (fun i => L.length - i) 0
    ⟨by omega, by exact hS.picks (by focus ((repeat (first | apply Picks.all | apply Picks.nil | (refine Picks.cons (by repeat (first | apply Take.head | apply Take.tail)) ?_) | apply Picks.drop)); done))⟩ (by focus ((repeat (first | exact .nil | refine .cons rfl ?_)); done)) ?_
  clear hS
  rintro i w ⟨hi, hS⟩ ih
  by_cases hlt : i < L.length
  · have hih : has L (i : Int) = true := has_of hlt
    have fn : ((flat L ++ spare).drop (i * 5)).take 5 = ndL (nd L i) := flat_take (x := (i : Int)) hih
    have hput := canTo_put (K := K) hlt
    have hceq := can_eq g K hih
    have hki : K (i : Nat) = false := by rw [← hK]
    rw [hki, Bool.false_or] at hceq
    have hble : Nat.ble (i + 1) (boolsL L (canTo L K i)).length = true := by rw [boolsL_length]; exact Nat.ble_eq_true_of_le hlt
    have hgo := canTo_get (K := K) (i := i + 1) hih (by omega)
    have hgo' : (boolsL L (canTo L K (i + 1)))[i]? = some (.bool (can L K i)) := hgo
    have hcanI : ∀ {b : Bool}, can L K (i : Nat) = b → ∀ {w : World} {G : List HP}, St we ρ (KN kb p [] K :: Arena p (room 100) L :: G) w → _ := fun {b} h {w G} hS => kcan_is (we := we) (ρ := ρ) (F := G) (w := w) hh h hS
    obtain ⟨s1, s2, -⟩ := g.shape i hih
    have hnext : ∀ cv, can L K (i : Nat) = cv → ∃ cv, can L K (i : Nat) = cv := fun cv h => ⟨cv, h⟩
    by_cases k9 : (nd L i).k = 0 ∨ (nd L i).k = 9
    · have hc : canR L K (can L K) i = true := by unfold canR; rw [if_pos k9]
      rw [hc] at hceq
      rw [hceq] at hput hgo'
      rcases k9 with k9 | k9
      all_goals
        repeat' first
          | (refine RO.still (by apply Still.load; rfl; rfl; (exact Rd.any); exact fa) hS rfl ?_)
          | (refine RO.still (by apply Still.load; rfl; rfl; (exact Rd.any); exact fb) hS rfl ?_)
          | (refine RO.still (by apply Still.load; rfl; rfl; (exact Rd.any); exact fc) hS rfl ?_)
          | (refine RO.still (by apply Still.loadAgg; rfl; rfl; (exact eqAuto); (exact Rd.any); exact fn; rfl) hS rfl ?_)
          | (apply RO.op; apply OP.store hS; rfl; rfl; rfl; rfl; rfl; (focus ((repeat (first | apply Has.head | apply Take.head | apply Put.head | apply Has.tail | apply Take.tail | apply Put.tail)); done)); exact hble; exact hput; clear hS; intro w1 hS)
          | (refine Run.regionQ_of hS (by rfl) (by kernel_rfl) ?_; clear hS)
          | (refine RQ.still (by apply Still.load; rfl; rfl; (exact Rd.any); exact hgo') rfl ?_)
          | (apply RQ.callF; rfl; rfl; rfl; (show ∀ w, _ → Cl _ 15 _ _ _; exact fun w hS => (hcanI hceq (hS.take2 (by focus ((repeat (first | apply Has.head | apply Take.head | apply Put.head | apply Has.tail | apply Take.tail | apply Put.tail)); done)) (by focus ((repeat (first | apply Has.head | apply Take.head | apply Put.head | apply Has.tail | apply Take.tail | apply Put.tail)); done)))).at2 (by focus ((repeat (first | apply Has.head | apply Take.head | apply Put.head | apply Has.tail | apply Take.tail | apply Put.tail)); done)) (by focus ((repeat (first | apply Has.head | apply Take.head | apply Put.head | apply Has.tail | apply Take.tail | apply Put.tail)); done))))
          | (refine RQ.split ?_ ?_ <;> intro hc <;> try (first | (exfalso; omega) | exact absurd rfl hc | exact Bool.noConfusion hc))
          | (refine RQ.nil ?_; (try clear hS); intro w1 hS)
          | refine RQ.still (by exact Still.any) rfl ?_
          | refine RQ.yes rfl rfl ?_
          | refine RQ.no rfl rfl rfl rfl ?_
          | refine RQ.noUndef rfl rfl rfl ?_
          | refine Run.seq ?_
          | refine Run.region ?_
          | (refine RO.split ?_ ?_ <;> intro hc <;> try (first | (exfalso; omega) | exact absurd rfl hc | exact Bool.noConfusion hc))
          | refine RO.nil ?_
          | refine RO.still (by exact Still.any) hS rfl ?_
          | (apply RO.op; apply OP.box hS; rfl; rfl; rfl; clear hS; intro b w1 hS)
          | (apply RO.op; apply OP.alloc hS; rfl; rfl; rfl; clear hS; intro b w1 hS)
          | (apply RO.op; apply OP.store hS; rfl; rfl; rfl; rfl; rfl; (focus ((repeat (first | apply Has.head | apply Take.head | apply Put.head | apply Has.tail | apply Take.tail | apply Put.tail)); done)); rfl; rfl; clear hS; intro w1 hS)
          | (apply RO.op; apply OP.buildSlice hS; rfl; rfl; (exact eqAuto); rfl; rfl; rfl; rfl; rfl; clear hS; intro b w1 hS)
          | (apply RO.op; apply OP.makeMap hS; rfl; clear hS; intro b w1 hS)
          | refine RO.yes rfl rfl ?_
          | refine RO.no rfl rfl rfl rfl ?_
          | refine RO.noUndef rfl rfl rfl ?_
          | refine RO.noNone rfl rfl rfl ?_
          | refine Run.cond_true rfl ?_
          | refine Run.cond_false rfl ?_
          | refine Run.skip ?_
          | refine Run.block ?_
          | refine Run.inBlock ?_
          | refine Run.exit rfl ?_
        all_goals refine Run.weaken (by focus ((repeat (first | exact .nil | refine .cons rfl ?_)); done)) (ih (i + 1) _ ⟨by omega, hS.picks (by focus ((repeat (first | apply Picks.all | apply Picks.nil | (refine Picks.cons (by repeat (first | apply Take.head | apply Take.tail)) ?_) | apply Picks.drop)); done))⟩ (by omega))
    by_cases k1 : (nd L i).k = 1
    · have hc : canR L K (can L K) i = decide (4294967296 ≤ (nd L i).n) := by unfold canR; rw [if_neg k9, if_pos k1]
      rw [hc] at hceq
      rw [hceq] at hput hgo'
      by_cases hn : 4294967296 ≤ (nd L i).n
      · rw [decide_eq_true hn] at hput hgo' hceq
        repeat' first
          | (refine RO.still (by apply Still.load; rfl; rfl; (exact Rd.any); exact fa) hS rfl ?_)
          | (refine RO.still (by apply Still.load; rfl; rfl; (exact Rd.any); exact fb) hS rfl ?_)
          | (refine RO.still (by apply Still.load; rfl; rfl; (exact Rd.any); exact fc) hS rfl ?_)
          | (refine RO.still (by apply Still.loadAgg; rfl; rfl; (exact eqAuto); (exact Rd.any); exact fn; rfl) hS rfl ?_)
          | (apply RO.op; apply OP.store hS; rfl; rfl; rfl; rfl; rfl; (focus ((repeat (first | apply Has.head | apply Take.head | apply Put.head | apply Has.tail | apply Take.tail | apply Put.tail)); done)); exact hble; exact hput; clear hS; intro w1 hS)
          | (refine Run.regionQ_of hS (by rfl) (by kernel_rfl) ?_; clear hS)
          | (refine RQ.still (by apply Still.load; rfl; rfl; (exact Rd.any); exact hgo') rfl ?_)
          | (apply RQ.callF; rfl; rfl; rfl; (show ∀ w, _ → Cl _ 15 _ _ _; exact fun w hS => (hcanI hceq (hS.take2 (by focus ((repeat (first | apply Has.head | apply Take.head | apply Put.head | apply Has.tail | apply Take.tail | apply Put.tail)); done)) (by focus ((repeat (first | apply Has.head | apply Take.head | apply Put.head | apply Has.tail | apply Take.tail | apply Put.tail)); done)))).at2 (by focus ((repeat (first | apply Has.head | apply Take.head | apply Put.head | apply Has.tail | apply Take.tail | apply Put.tail)); done)) (by focus ((repeat (first | apply Has.head | apply Take.head | apply Put.head | apply Has.tail | apply Take.tail | apply Put.tail)); done))))
          | (refine RQ.split ?_ ?_ <;> intro hc <;> try (first | (exfalso; omega) | exact absurd rfl hc | exact Bool.noConfusion hc))
          | (refine RQ.nil ?_; (try clear hS); intro w1 hS)
          | refine RQ.still (by exact Still.any) rfl ?_
          | refine RQ.yes rfl rfl ?_
          | refine RQ.no rfl rfl rfl rfl ?_
          | refine RQ.noUndef rfl rfl rfl ?_
          | refine Run.seq ?_
          | refine Run.region ?_
          | (refine RO.split ?_ ?_ <;> intro hc <;> try (first | (exfalso; omega) | exact absurd rfl hc | exact Bool.noConfusion hc))
          | refine RO.nil ?_
          | refine RO.still (by exact Still.any) hS rfl ?_
          | (apply RO.op; apply OP.box hS; rfl; rfl; rfl; clear hS; intro b w1 hS)
          | (apply RO.op; apply OP.alloc hS; rfl; rfl; rfl; clear hS; intro b w1 hS)
          | (apply RO.op; apply OP.store hS; rfl; rfl; rfl; rfl; rfl; (focus ((repeat (first | apply Has.head | apply Take.head | apply Put.head | apply Has.tail | apply Take.tail | apply Put.tail)); done)); rfl; rfl; clear hS; intro w1 hS)
          | (apply RO.op; apply OP.buildSlice hS; rfl; rfl; (exact eqAuto); rfl; rfl; rfl; rfl; rfl; clear hS; intro b w1 hS)
          | (apply RO.op; apply OP.makeMap hS; rfl; clear hS; intro b w1 hS)
          | refine RO.yes rfl rfl ?_
          | refine RO.no rfl rfl rfl rfl ?_
          | refine RO.noUndef rfl rfl rfl ?_
          | refine RO.noNone rfl rfl rfl ?_
          | refine Run.cond_true rfl ?_
          | refine Run.cond_false rfl ?_
          | refine Run.skip ?_
          | refine Run.block ?_
          | refine Run.inBlock ?_
          | refine Run.exit rfl ?_
        all_goals refine Run.weaken (by focus ((repeat (first | exact .nil | refine .cons rfl ?_)); done)) (ih (i + 1) _ ⟨by omega, hS.picks (by focus ((repeat (first | apply Picks.all | apply Picks.nil | (refine Picks.cons (by repeat (first | apply Take.head | apply Take.tail)) ?_) | apply Picks.drop)); done))⟩ (by omega))
      · rw [decide_eq_false hn] at hput hgo' hceq
        repeat' first
          | (refine RO.still (by apply Still.load; rfl; rfl; (exact Rd.any); exact fa) hS rfl ?_)
          | (refine RO.still (by apply Still.load; rfl; rfl; (exact Rd.any); exact fb) hS rfl ?_)
          | (refine RO.still (by apply Still.load; rfl; rfl; (exact Rd.any); exact fc) hS rfl ?_)
          | (refine RO.still (by apply Still.loadAgg; rfl; rfl; (exact eqAuto); (exact Rd.any); exact fn; rfl) hS rfl ?_)
          | (apply RO.op; apply OP.store hS; rfl; rfl; rfl; rfl; rfl; (focus ((repeat (first | apply Has.head | apply Take.head | apply Put.head | apply Has.tail | apply Take.tail | apply Put.tail)); done)); exact hble; exact hput; clear hS; intro w1 hS)
          | (refine Run.regionQ_of hS (by rfl) (by kernel_rfl) ?_; clear hS)
          | (refine RQ.still (by apply Still.load; rfl; rfl; (exact Rd.any); exact hgo') rfl ?_)
          | (apply RQ.callF; rfl; rfl; rfl; (show ∀ w, _ → Cl _ 15 _ _ _; exact fun w hS => (hcanI hceq (hS.take2 (by focus ((repeat (first | apply Has.head | apply Take.head | apply Put.head | apply Has.tail | apply Take.tail | apply Put.tail)); done)) (by focus ((repeat (first | apply Has.head | apply Take.head | apply Put.head | apply Has.tail | apply Take.tail | apply Put.tail)); done)))).at2 (by focus ((repeat (first | apply Has.head | apply Take.head | apply Put.head | apply Has.tail | apply Take.tail | apply Put.tail)); done)) (by focus ((repeat (first | apply Has.head | apply Take.head | apply Put.head | apply Has.tail | apply Take.tail | apply Put.tail)); done))))
          | (refine RQ.split ?_ ?_ <;> intro hc <;> try (first | (exfalso; omega) | exact absurd rfl hc | exact Bool.noConfusion hc))
          | (refine RQ.nil ?_; (try clear hS); intro w1 hS)
          | refine RQ.still (by exact Still.any) rfl ?_
          | refine RQ.yes rfl rfl ?_
          | refine RQ.no rfl rfl rfl rfl ?_
          | refine RQ.noUndef rfl rfl rfl ?_
          | refine Run.seq ?_
          | refine Run.region ?_
          | (refine RO.split ?_ ?_ <;> intro hc <;> try (first | (exfalso; omega) | exact absurd rfl hc | exact Bool.noConfusion hc))
          | refine RO.nil ?_
          | refine RO.still (by exact Still.any) hS rfl ?_
          | (apply RO.op; apply OP.box hS; rfl; rfl; rfl; clear hS; intro b w1 hS)
          | (apply RO.op; apply OP.alloc hS; rfl; rfl; rfl; clear hS; intro b w1 hS)
          | (apply RO.op; apply OP.store hS; rfl; rfl; rfl; rfl; rfl; (focus ((repeat (first | apply Has.head | apply Take.head | apply Put.head | apply Has.tail | apply Take.tail | apply Put.tail)); done)); rfl; rfl; clear hS; intro w1 hS)
          | (apply RO.op; apply OP.buildSlice hS; rfl; rfl; (exact eqAuto); rfl; rfl; rfl; rfl; rfl; clear hS; intro b w1 hS)
          | (apply RO.op; apply OP.makeMap hS; rfl; clear hS; intro b w1 hS)
          | refine RO.yes rfl rfl ?_
          | refine RO.no rfl rfl rfl rfl ?_
          | refine RO.noUndef rfl rfl rfl ?_
          | refine RO.noNone rfl rfl rfl ?_
          | refine Run.cond_true rfl ?_
          | refine Run.cond_false rfl ?_
          | refine Run.skip ?_
          | refine Run.block ?_
          | refine Run.inBlock ?_
          | refine Run.exit rfl ?_
        all_goals refine Run.weaken (by focus ((repeat (first | exact .nil | refine .cons rfl ?_)); done)) (ih (i + 1) _ ⟨by omega, hS.picks (by focus ((repeat (first | apply Picks.all | apply Picks.nil | (refine Picks.cons (by repeat (first | apply Take.head | apply Take.tail)) ?_) | apply Picks.drop)); done))⟩ (by omega))
    rcases nd_parts g hih with h0 | ⟨p1, p2, p3, q1, q2, q3⟩
    · exact absurd (.inl h0) k9
    have r1 := has_iff.1 p1
    have r2 := has_iff.1 p2
    have r3 := has_iff.1 p3
    have fa := canTo_get (K := K) p1 q1
    have fb := canTo_get (K := K) p2 q2
    have fc := canTo_get (K := K) p3 q3
    obtain ⟨ca, hca⟩ : ∃ b, can L K (nd L i).a = b := ⟨_, rfl⟩
    obtain ⟨cb, hcb⟩ : ∃ b, can L K (nd L i).b = b := ⟨_, rfl⟩
    obtain ⟨cc, hcc⟩ : ∃ b, can L K (nd L i).c = b := ⟨_, rfl⟩
    rw [hca] at fa
    rw [hcb] at fb
    rw [hcc] at fc
    by_cases k2 : (nd L i).k = 2
    · have hc : canR L K (can L K) i = ca := by unfold canR; rw [if_neg k9, if_neg k1, if_pos k2, hca]
      rw [hc] at hceq
      rw [hceq] at hput hgo'
      cases ca
      all_goals
        repeat' first
          | (refine RO.still (by apply Still.load; rfl; rfl; (exact Rd.any); exact fa) hS rfl ?_)
          | (refine RO.still (by apply Still.load; rfl; rfl; (exact Rd.any); exact fb) hS rfl ?_)
          | (refine RO.still (by apply Still.load; rfl; rfl; (exact Rd.any); exact fc) hS rfl ?_)
          | (refine RO.still (by apply Still.loadAgg; rfl; rfl; (exact eqAuto); (exact Rd.any); exact fn; rfl) hS rfl ?_)
          | (apply RO.op; apply OP.store hS; rfl; rfl; rfl; rfl; rfl; (focus ((repeat (first | apply Has.head | apply Take.head | apply Put.head | apply Has.tail | apply Take.tail | apply Put.tail)); done)); exact hble; exact hput; clear hS; intro w1 hS)
          | (refine Run.regionQ_of hS (by rfl) (by kernel_rfl) ?_; clear hS)
          | (refine RQ.still (by apply Still.load; rfl; rfl; (exact Rd.any); exact hgo') rfl ?_)
          | (apply RQ.callF; rfl; rfl; rfl; (show ∀ w, _ → Cl _ 15 _ _ _; exact fun w hS => (hcanI hceq (hS.take2 (by focus ((repeat (first | apply Has.head | apply Take.head | apply Put.head | apply Has.tail | apply Take.tail | apply Put.tail)); done)) (by focus ((repeat (first | apply Has.head | apply Take.head | apply Put.head | apply Has.tail | apply Take.tail | apply Put.tail)); done)))).at2 (by focus ((repeat (first | apply Has.head | apply Take.head | apply Put.head | apply Has.tail | apply Take.tail | apply Put.tail)); done)) (by focus ((repeat (first | apply Has.head | apply Take.head | apply Put.head | apply Has.tail | apply Take.tail | apply Put.tail)); done))))
          | (refine RQ.split ?_ ?_ <;> intro hc <;> try (first | (exfalso; omega) | exact absurd rfl hc | exact Bool.noConfusion hc))
          | (refine RQ.nil ?_; (try clear hS); intro w1 hS)
          | refine RQ.still (by exact Still.any) rfl ?_
          | refine RQ.yes rfl rfl ?_
          | refine RQ.no rfl rfl rfl rfl ?_
          | refine RQ.noUndef rfl rfl rfl ?_
          | refine Run.seq ?_
          | refine Run.region ?_
          | (refine RO.split ?_ ?_ <;> intro hc <;> try (first | (exfalso; omega) | exact absurd rfl hc | exact Bool.noConfusion hc))
          | refine RO.nil ?_
          | refine RO.still (by exact Still.any) hS rfl ?_
          | (apply RO.op; apply OP.box hS; rfl; rfl; rfl; clear hS; intro b w1 hS)
          | (apply RO.op; apply OP.alloc hS; rfl; rfl; rfl; clear hS; intro b w1 hS)
          | (apply RO.op; apply OP.store hS; rfl; rfl; rfl; rfl; rfl; (focus ((repeat (first | apply Has.head | apply Take.head | apply Put.head | apply Has.tail | apply Take.tail | apply Put.tail)); done)); rfl; rfl; clear hS; intro w1 hS)
          | (apply RO.op; apply OP.buildSlice hS; rfl; rfl; (exact eqAuto); rfl; rfl; rfl; rfl; rfl; clear hS; intro b w1 hS)
          | (apply RO.op; apply OP.makeMap hS; rfl; clear hS; intro b w1 hS)
          | refine RO.yes rfl rfl ?_
          | refine RO.no rfl rfl rfl rfl ?_
          | refine RO.noUndef rfl rfl rfl ?_
          | refine RO.noNone rfl rfl rfl ?_
          | refine Run.cond_true rfl ?_
          | refine Run.cond_false rfl ?_
          | refine Run.skip ?_
          | refine Run.block ?_
          | refine Run.inBlock ?_
          | refine Run.exit rfl ?_
        all_goals refine Run.weaken (by focus ((repeat (first | exact .nil | refine .cons rfl ?_)); done)) (ih (i + 1) _ ⟨by omega, hS.picks (by focus ((repeat (first | apply Picks.all | apply Picks.nil | (refine Picks.cons (by repeat (first | apply Take.head | apply Take.tail)) ?_) | apply Picks.drop)); done))⟩ (by omega))
    by_cases k7 : (nd L i).k = 7
    · have hc : canR L K (can L K) i = (ca && cb && cc) := by unfold canR; rw [if_neg k9, if_neg k1, if_neg k2, if_neg (by omega), if_pos k7, hca, hcb, hcc]
      rw [hc] at hceq
      rw [hceq] at hput hgo'
      cases ca <;> cases cb <;> cases cc
      all_goals
        repeat' first
          | (refine RO.still (by apply Still.load; rfl; rfl; (exact Rd.any); exact fa) hS rfl ?_)
          | (refine RO.still (by apply Still.load; rfl; rfl; (exact Rd.any); exact fb) hS rfl ?_)
          | (refine RO.still (by apply Still.load; rfl; rfl; (exact Rd.any); exact fc) hS rfl ?_)
          | (refine RO.still (by apply Still.loadAgg; rfl; rfl; (exact eqAuto); (exact Rd.any); exact fn; rfl) hS rfl ?_)
          | (apply RO.op; apply OP.store hS; rfl; rfl; rfl; rfl; rfl; (focus ((repeat (first | apply Has.head | apply Take.head | apply Put.head | apply Has.tail | apply Take.tail | apply Put.tail)); done)); exact hble; exact hput; clear hS; intro w1 hS)
          | (refine Run.regionQ_of hS (by rfl) (by kernel_rfl) ?_; clear hS)
          | (refine RQ.still (by apply Still.load; rfl; rfl; (exact Rd.any); exact hgo') rfl ?_)
          | (apply RQ.callF; rfl; rfl; rfl; (show ∀ w, _ → Cl _ 15 _ _ _; exact fun w hS => (hcanI hceq (hS.take2 (by focus ((repeat (first | apply Has.head | apply Take.head | apply Put.head | apply Has.tail | apply Take.tail | apply Put.tail)); done)) (by focus ((repeat (first | apply Has.head | apply Take.head | apply Put.head | apply Has.tail | apply Take.tail | apply Put.tail)); done)))).at2 (by focus ((repeat (first | apply Has.head | apply Take.head | apply Put.head | apply Has.tail | apply Take.tail | apply Put.tail)); done)) (by focus ((repeat (first | apply Has.head | apply Take.head | apply Put.head | apply Has.tail | apply Take.tail | apply Put.tail)); done))))
          | (refine RQ.split ?_ ?_ <;> intro hc <;> try (first | (exfalso; omega) | exact absurd rfl hc | exact Bool.noConfusion hc))
          | (refine RQ.nil ?_; (try clear hS); intro w1 hS)
          | refine RQ.still (by exact Still.any) rfl ?_
          | refine RQ.yes rfl rfl ?_
          | refine RQ.no rfl rfl rfl rfl ?_
          | refine RQ.noUndef rfl rfl rfl ?_
          | refine Run.seq ?_
          | refine Run.region ?_
          | (refine RO.split ?_ ?_ <;> intro hc <;> try (first | (exfalso; omega) | exact absurd rfl hc | exact Bool.noConfusion hc))
          | refine RO.nil ?_
          | refine RO.still (by exact Still.any) hS rfl ?_
          | (apply RO.op; apply OP.box hS; rfl; rfl; rfl; clear hS; intro b w1 hS)
          | (apply RO.op; apply OP.alloc hS; rfl; rfl; rfl; clear hS; intro b w1 hS)
          | (apply RO.op; apply OP.store hS; rfl; rfl; rfl; rfl; rfl; (focus ((repeat (first | apply Has.head | apply Take.head | apply Put.head | apply Has.tail | apply Take.tail | apply Put.tail)); done)); rfl; rfl; clear hS; intro w1 hS)
          | (apply RO.op; apply OP.buildSlice hS; rfl; rfl; (exact eqAuto); rfl; rfl; rfl; rfl; rfl; clear hS; intro b w1 hS)
          | (apply RO.op; apply OP.makeMap hS; rfl; clear hS; intro b w1 hS)
          | refine RO.yes rfl rfl ?_
          | refine RO.no rfl rfl rfl rfl ?_
          | refine RO.noUndef rfl rfl rfl ?_
          | refine RO.noNone rfl rfl rfl ?_
          | refine Run.cond_true rfl ?_
          | refine Run.cond_false rfl ?_
          | refine Run.skip ?_
          | refine Run.block ?_
          | refine Run.inBlock ?_
          | refine Run.exit rfl ?_
        all_goals refine Run.weaken (by focus ((repeat (first | exact .nil | refine .cons rfl ?_)); done)) (ih (i + 1) _ ⟨by omega, hS.picks (by focus ((repeat (first | apply Picks.all | apply Picks.nil | (refine Picks.cons (by repeat (first | apply Take.head | apply Take.tail)) ?_) | apply Picks.drop)); done))⟩ (by omega))
    · have hc : canR L K (can L K) i = (ca && cb) := by
        unfold canR
        rw [if_neg k9, if_neg k1, if_neg k2, hca, hcb, hpub, hpub]
        split
        · cases ca <;> cases cb <;> rfl
        · first | rfl | rw [if_neg k7]
      rw [hc] at hceq
      rw [hceq] at hput hgo'
      have k90 : ¬ (nd L i).k = 0 := fun h => k9 (.inl h)
      have k99 : ¬ (nd L i).k = 9 := fun h => k9 (.inr h)
      cases ca <;> cases cb
      all_goals
        repeat' first
          | (refine RO.still (by apply Still.load; rfl; rfl; (exact Rd.any); exact fa) hS rfl ?_)
          | (refine RO.still (by apply Still.load; rfl; rfl; (exact Rd.any); exact fb) hS rfl ?_)
          | (refine RO.still (by apply Still.load; rfl; rfl; (exact Rd.any); exact fc) hS rfl ?_)
          | (refine RO.still (by apply Still.loadAgg; rfl; rfl; (exact eqAuto); (exact Rd.any); exact fn; rfl) hS rfl ?_)
          | (apply RO.op; apply OP.store hS; rfl; rfl; rfl; rfl; rfl; (focus ((repeat (first | apply Has.head | apply Take.head | apply Put.head | apply Has.tail | apply Take.tail | apply Put.tail)); done)); exact hble; exact hput; clear hS; intro w1 hS)
          | (refine Run.regionQ_of hS (by rfl) (by kernel_rfl) ?_; clear hS)
          | (refine RQ.still (by apply Still.load; rfl; rfl; (exact Rd.any); exact hgo') rfl ?_)
          | (apply RQ.callF; rfl; rfl; rfl; (show ∀ w, _ → Cl _ 15 _ _ _; exact fun w hS => (hcanI hceq (hS.take2 (by focus ((repeat (first | apply Has.head | apply Take.head | apply Put.head | apply Has.tail | apply Take.tail | apply Put.tail)); done)) (by focus ((repeat (first | apply Has.head | apply Take.head | apply Put.head | apply Has.tail | apply Take.tail | apply Put.tail)); done)))).at2 (by focus ((repeat (first | apply Has.head | apply Take.head | apply Put.head | apply Has.tail | apply Take.tail | apply Put.tail)); done)) (by focus ((repeat (first | apply Has.head | apply Take.head | apply Put.head | apply Has.tail | apply Take.tail | apply Put.tail)); done))))
          | (refine RQ.split ?_ ?_ <;> intro hc <;> try (first | (exfalso; omega) | exact absurd rfl hc | exact Bool.noConfusion hc))
          | (refine RQ.nil ?_; (try clear hS); intro w1 hS)
          | refine RQ.still (by exact Still.any) rfl ?_
          | refine RQ.yes rfl rfl ?_
          | refine RQ.no rfl rfl rfl rfl ?_
          | refine RQ.noUndef rfl rfl rfl ?_
          | refine Run.seq ?_
          | refine Run.region ?_
          | (refine RO.split ?_ ?_ <;> intro hc <;> try (first | (exfalso; omega) | exact absurd rfl hc | exact Bool.noConfusion hc))
          | refine RO.nil ?_
          | refine RO.still (by exact Still.any) hS rfl ?_
          | (apply RO.op; apply OP.box hS; rfl; rfl; rfl; clear hS; intro b w1 hS)
          | (apply RO.op; apply OP.alloc hS; rfl; rfl; rfl; clear hS; intro b w1 hS)
          | (apply RO.op; apply OP.store hS; rfl; rfl; rfl; rfl; rfl; (focus ((repeat (first | apply Has.head | apply Take.head | apply Put.head | apply Has.tail | apply Take.tail | apply Put.tail)); done)); rfl; rfl; clear hS; intro w1 hS)
          | (apply RO.op; apply OP.buildSlice hS; rfl; rfl; (exact eqAuto); rfl; rfl; rfl; rfl; rfl; clear hS; intro b w1 hS)
          | (apply RO.op; apply OP.makeMap hS; rfl; clear hS; intro b w1 hS)
          | refine RO.yes rfl rfl ?_
          | refine RO.no rfl rfl rfl rfl ?_
          | refine RO.noUndef rfl rfl rfl ?_
          | refine RO.noNone rfl rfl rfl ?_
          | refine Run.cond_true rfl ?_
          | refine Run.cond_false rfl ?_
          | refine Run.skip ?_
          | refine Run.block ?_
          | refine Run.inBlock ?_
          | refine Run.exit rfl ?_
        all_goals refine Run.weaken (by focus ((repeat (first | exact .nil | refine .cons rfl ?_)); done)) (ih (i + 1) _ ⟨by omega, hS.picks (by focus ((repeat (first | apply Picks.all | apply Picks.nil | (refine Picks.cons (by repeat (first | apply Take.head | apply Take.tail)) ?_) | apply Picks.drop)); done))⟩ (by omega))
  · obtain rfl : i = L.length := by omega
    have hknown : ∀ {w : World} {G : List HP}, St we ρ (KN kb p [] K :: G) w → _ := fun {w G} hS => known_calls (we := we) (ρ := ρ) (F := G) (w := w) (L := L) hh (by omega) hS
    have hheard : ∀ {w : World} {G : List HP}, St we ρ (KN kb p [] K :: G) w → _ := fun {w G} hS => heard_calls (we := we) (ρ := ρ) (F := G) (w := w) (by simp) hS
    rw [hkn] at hknown
    repeat' first
      | (apply RO.op; apply OP.callF; rfl; rfl; rfl; show Cl _ 27 _ _ _; exact hknown (hS.take (by focus ((repeat (first | apply Has.head | apply Take.head | apply Put.head | apply Has.tail | apply Take.tail | apply Put.tail)); done))); clear hS; rintro v w1 hS; obtain ⟨pk, capk, rfl⟩ := vec_slice hS)
      | (apply OP.callF; rfl; rfl; rfl; show Cl _ 27 _ _ _; exact hknown (hS.take (by focus ((repeat (first | apply Has.head | apply Take.head | apply Put.head | apply Has.tail | apply Take.tail | apply Put.tail)); done))); clear hS; rintro v w1 hS; obtain ⟨pk, capk, rfl⟩ := vec_slice hS; refine ⟨(by first | exact hS | exact hS.tail | exact hS.sublist (by repeat (first | exact List.Sublist.refl _ | refine .cons_cons _ ?_ | refine .cons _ ?_))), ?_⟩)
      | (apply RO.op; apply OP.callF; rfl; rfl; rfl; show Cl _ 23 _ _ _; exact hheard (hS.take (by focus ((repeat (first | apply Has.head | apply Take.head | apply Put.head | apply Has.tail | apply Take.tail | apply Put.tail)); done))); clear hS; rintro v w1 hS; obtain ⟨pk2, capk2, rfl⟩ := vec_slice hS)
      | (apply OP.callF; rfl; rfl; rfl; show Cl _ 23 _ _ _; exact hheard (hS.take (by focus ((repeat (first | apply Has.head | apply Take.head | apply Put.head | apply Has.tail | apply Take.tail | apply Put.tail)); done))); clear hS; rintro v w1 hS; obtain ⟨pk2, capk2, rfl⟩ := vec_slice hS; refine ⟨(by first | exact hS | exact hS.tail | exact hS.sublist (by repeat (first | exact List.Sublist.refl _ | refine .cons_cons _ ?_ | refine .cons _ ?_))), ?_⟩)
      | (apply RO.op; apply OP.callF; rfl; rfl; rfl; show Cl _ 12 _ _ _; exact kawake_calls hS; clear hS; rintro v w1 ⟨rfl, hS⟩)
      | (apply OP.callF; rfl; rfl; rfl; show Cl _ 12 _ _ _; exact kawake_calls hS; clear hS; rintro v w1 ⟨rfl, hS⟩; refine ⟨(by first | exact hS | exact hS.tail | exact hS.sublist (by repeat (first | exact List.Sublist.refl _ | refine .cons_cons _ ?_ | refine .cons _ ?_))), ?_⟩)
      | refine Run.seq ?_
      | refine Run.region ?_
      | (refine RO.split ?_ ?_ <;> intro hc <;> try (first | (exfalso; omega) | exact absurd rfl hc | exact Bool.noConfusion hc))
      | refine RO.nil ?_
      | refine RO.still (by exact Still.any) hS rfl ?_
      | (apply RO.op; apply OP.box hS; rfl; rfl; rfl; clear hS; intro b w1 hS)
      | (apply RO.op; apply OP.alloc hS; rfl; rfl; rfl; clear hS; intro b w1 hS)
      | (apply RO.op; apply OP.store hS; rfl; rfl; rfl; rfl; rfl; (focus ((repeat (first | apply Has.head | apply Take.head | apply Put.head | apply Has.tail | apply Take.tail | apply Put.tail)); done)); rfl; rfl; clear hS; intro w1 hS)
      | (apply RO.op; apply OP.buildSlice hS; rfl; rfl; (exact eqAuto); rfl; rfl; rfl; rfl; rfl; clear hS; intro b w1 hS)
      | (apply RO.op; apply OP.makeMap hS; rfl; clear hS; intro b w1 hS)
      | refine RO.yes rfl rfl ?_
      | refine RO.no rfl rfl rfl rfl ?_
      | refine RO.noUndef rfl rfl rfl ?_
      | refine RO.noNone rfl rfl rfl ?_
      | refine Run.cond_true rfl ?_
      | refine Run.cond_false rfl ?_
      | refine Run.skip ?_
      | refine Run.block ?_
      | refine Run.inBlock ?_
      | refine Run.exit rfl ?_
    refine Run.ret Try.func10 rfl (.tmp rfl .nil) ?_
    exact ⟨rfl, hS.picks (by focus ((repeat (first | apply Picks.all | apply Picks.nil | (refine Picks.cons (by repeat (first | apply Take.head | apply Take.tail)) ?_) | apply Picks.drop)); done))⟩
end
end Go.Proofs.Ytjkfbimldgegmaa
