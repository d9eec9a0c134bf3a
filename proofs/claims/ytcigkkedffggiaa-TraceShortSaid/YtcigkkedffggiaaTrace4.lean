/-
  What lacks to a key that is made, and which Dh is made with neither secret: in plain words, in the program, in the document; keys that come of known ones.
-/
import Derived.Test.YtcigkkedffggiaaTrace3
namespace Go.Proofs.Ytcigkkedffggiaa
set_option maxRecDepth 8000
set_option linter.unusedSimpArgs false
set_option linter.unusedVariables false
open Go Go.RowKit

def shortL (L : List Nd) (K : Int → Bool) (x : Int) : List Int := if can L K x = true ∧ K x = false then (mixed L x).filter fun y => !can L K y else []
def ownV (L : List Nd) (y : Int) : Bool := decide ((nd L y).k = 1 ∧ (nd L y).n < 4294967296)

theorem mixed_has {lim : Nat} {L : List Nd} (g : Good lim L) : ∀ (m : Nat) (x : Int), x.toNat ≤ m → 0 ≤ x → ∀ y ∈ mixed L x, has L y = true := by
  intro m
  induction m with
  | zero =>
    intro x hm h0 y hy
    obtain rfl : x = 0 := by omega
    rw [mixed_no (by rw [g.wf.zero]; simp [Nd.z])] at hy
    cases hy
  | succ m ih =>
    intro x hm h0 y hy
    by_cases hx : has L x = true ∧ (nd L x).k = 6
    · rw [mixed_yes g hx.1 hx.2] at hy
      rcases nd_parts g hx.1 with h | ⟨a1, a2, a3, b1, b2, b3⟩
      · omega
      · have := has_iff.1 a1
        rcases List.mem_append.1 hy with q | q
        · exact ih (nd L x).a (by omega) (by omega) y q
        · split at q
          · rw [List.mem_singleton.1 q]; exact a2
          · cases q
    · rw [mixed_no hx] at hy; cases hy

/-- A key that a key comes of is known. -/
inductive Deep (L : List Nd) (K : Int → Bool) : Int → Prop
  | known {x : Int} : (nd L x).k = 6 → K (nd L x).a = true → Deep L K x
  | step {x : Int} : (nd L x).k = 6 → Deep L K (nd L x).a → Deep L K x

theorem short_deep {lim : Nat} {L : List Nd} (g : Good lim L) {K : Int → Bool} : ∀ (m : Nat) (x : Int), x.toNat ≤ m → has L x = true → (nd L x).k = 6 → K x = false → can L K x = true → (mixed L x).filter (fun y => !can L K y) ≠ [] → Deep L K x := by
  intro m
  induction m with
  | zero =>
    intro x hm hx hk _ _ _
    have := has_iff.1 hx
    obtain rfl : x = 0 := by omega
    rw [g.wf.zero] at hk
    simp [Nd.z] at hk
  | succ m ih =>
    intro x hm hx hk hkx hc hs
    rcases nd_parts g hx with h | ⟨a1, a2, a3, b1, b2, b3⟩
    · omega
    have h1 := has_iff.1 a1
    have h2 := has_iff.1 hx
    rw [can_eq g K hx, hkx, Bool.false_or] at hc
    unfold canR at hc
    rw [if_neg (by omega), if_neg (by omega), if_neg (by omega), if_neg (by omega), if_neg (by omega), Bool.and_eq_true] at hc
    cases hka : K (nd L x).a with
    | true => exact .known hk hka
    | false =>
      refine .step hk ?_
      rw [mixed_yes g hx hk, List.filter_append] at hs
      have hb : List.filter (fun y => !can L K y) (if (nd L x).n ≠ 4 ∧ (nd L x).b ≠ 0 then [(nd L x).b] else []) = [] := by
        split
        · simp [hc.2]
        · rfl
      rw [hb, List.append_nil] at hs
      have hk6 : (nd L (nd L x).a).k = 6 := by
        refine Classical.byContradiction fun q => ?_
        rw [mixed_no (fun h => q h.2)] at hs
        exact hs rfl
      exact ih _ (by omega) a1 hk6 hka hc.1 hs
theorem parted_never {lim : Nat} {L : List Nd} (g : Good lim L) {K : Int → Bool} {x : Int} (hx : has L x = true) (hk : (nd L x).k = 3) (hkx : K x = false) (hc : can L K x = true) : can L K (nd L x).a = true ∨ can L K (nd L x).b = true := by
  rw [can_eq g K hx, hkx, Bool.false_or] at hc
  unfold canR at hc
  rw [if_neg (by omega), if_neg (by omega), if_neg (by omega), if_pos hk] at hc
  simp only [Bool.or_eq_true, Bool.and_eq_true] at hc
  rcases hc with h | h
  · exact .inl h.1
  · exact .inr h.1

theorem take3 {we w : World} {ρ : List (Nat × Obj)} {σ : List HP} {A1 A2 A3 : HP} {F1 F2 F3 : List HP} (h : St we ρ σ w) (t1 : Take A1 σ F1) (t2 : Take A2 F1 F2) (t3 : Take A3 F2 F3) :
    St we ρ (A3 :: A2 :: A1 :: F3) w := ((h.take t1).take (.tail t2)).take (.tail (.tail t3))

section
variable {we w : World} {ρ : List (Nat × Obj)} {σ F : List HP} {kb p lim lim' r cap : Nat} {L : List Nd} {K : Int → Bool} {u v : Value} {spare : List Value} {heard : List Int} {l : List Ev} {i : Int}

theorem deep_calls {x : Int} {gk ck : Nat} {sp : List Value} (g : Good lim L) (hd : Deep L K x) (hx : has L x = true) (hS : St we ρ (Row r (flat L ++ spare) 58 :: Row gk (boolsL L K ++ sp) 4 :: F) w) :
    Cl Try.prog 33 [raV lim' r L.length cap, .slice (some ⟨gk, 0, none⟩) L.length ck, .int .i64 x] w fun v w' => v = .bool true ∧ St we ρ (Row r (flat L ++ spare) 58 :: Row gk (boolsL L K ++ sp) 4 :: F) w' := by
  have hlim := g.lim
  have hlen := g.len
  refine Run.calls3 (n := 24) Try.func33 rfl rfl rfl ?_
  repeat' first
    | refine Run.seq ?_
    | refine Run.region ?_
    | (refine RO.split ?_ ?_ <;> intro hc <;> try (first | (exfalso; omega) | exact absurd rfl hc | exact Bool.noConfusion hc))
    | refine RO.nil ?_
    | refine RO.still (by exact Still.any) hS rfl ?_
    | (apply RO.op; apply OP.box hS; rfl; rfl; rfl; clear hS; intro b w1 hS)
    | (apply RO.op; apply OP.alloc hS; rfl; rfl; rfl; clear hS; intro b w1 hS)
    | (apply RO.op; apply OP.store hS; rfl; rfl; rfl; rfl; rfl; (focus ((repeat (first | apply Has.head | apply Take.head | apply Put.head | apply Has.tail | apply Take.tail | apply Put.tail)); done)); rfl; rfl; clear hS; intro w1 hS)
    | (apply RO.op; apply OP.buildSlice hS; rfl; rfl; (exact eqAuto); rfl; rfl; rfl; rfl; rfl; clear hS; intro b w1 hS)
    | (apply RO.op; apply OP.makeMap hS; rfl; clear hS; intro b w1 hS)
    | refine RO.yes rfl rfl ?_
    | refine RO.no rfl rfl rfl rfl ?_
    | refine RO.noUndef rfl rfl rfl ?_
    | refine RO.noNone rfl rfl rfl ?_
    | refine Run.cond_true rfl ?_
    | refine Run.cond_false rfl ?_
    | refine Run.skip ?_
    | refine Run.block ?_
    | refine Run.inBlock ?_
    | refine Run.exit rfl ?_
  refine Run.while (fun y : Int => [(1, .slice (some ⟨gk, 0, none⟩) L.length ck), (2, .int .i64 y), (3, .pointer (some ⟨b, 0, none⟩))])
    (fun y w => Deep L K y ∧ has L y = true ∧ St we ρ (Row b [.int .i64 lim', .slice (some ⟨r, 0, none⟩) L.length cap] 48 :: Row r (flat L ++ spare) 58 :: Row gk (boolsL L K ++ sp) 4 :: F) w) (fun y => y.toNat) x
    ⟨hd, hx, hS.picks (by focus ((repeat (first | apply Picks.all | apply Picks.nil | (refine Picks.cons (by repeat (first | apply Take.head | apply Take.tail)) ?_) | apply Picks.drop)); done))⟩ (by focus ((repeat (first | exact .nil | refine .cons rfl ?_)); done)) ?_
  clear hS hd hx
  rintro y w ⟨hd, hx, hS⟩ ih
  have h6 : (nd L y).k = 6 := by cases hd <;> assumption
  rcases nd_parts g hx with h | ⟨a1, a2, a3, b1, b2, b3⟩
  · omega
  have h1 := has_iff.1 a1
  have h2 := has_iff.1 hx
  have f0 := flat_get0 (spare := spare) hx
  have f2 := flat_get2 (spare := spare) hx
  have fk : (boolsL L K ++ sp)[(nd L y).a.toNat]? = some (.bool (K (nd L y).a)) := boolsL_get a1
  cases hka : K (nd L y).a with
  | true =>
    rw [hka] at fk
    repeat' first
      | (refine RO.still (by apply Still.load; rfl; rfl; (exact Rd.any); exact f0) hS rfl ?_)
      | (refine RO.still (by apply Still.load; rfl; rfl; (exact Rd.any); exact f2) hS rfl ?_)
      | (refine RO.still (by apply Still.load; rfl; rfl; (exact Rd.any); exact fk) hS rfl ?_)
      | refine Run.seq ?_
      | refine Run.region ?_
      | (refine RO.split ?_ ?_ <;> intro hc <;> try (first | (exfalso; omega) | exact absurd rfl hc | exact Bool.noConfusion hc))
      | refine RO.nil ?_
      | refine RO.still (by exact Still.any) hS rfl ?_
      | (apply RO.op; apply OP.box hS; rfl; rfl; rfl; clear hS; intro b w1 hS)
      | (apply RO.op; apply OP.alloc hS; rfl; rfl; rfl; clear hS; intro b w1 hS)
      | (apply RO.op; apply OP.store hS; rfl; rfl; rfl; rfl; rfl; (focus ((repeat (first | apply Has.head | apply Take.head | apply Put.head | apply Has.tail | apply Take.tail | apply Put.tail)); done)); rfl; rfl; clear hS; intro w1 hS)
      | (apply RO.op; apply OP.buildSlice hS; rfl; rfl; (exact eqAuto); rfl; rfl; rfl; rfl; rfl; clear hS; intro b w1 hS)
      | (apply RO.op; apply OP.makeMap hS; rfl; clear hS; intro b w1 hS)
      | refine RO.yes rfl rfl ?_
      | refine RO.no rfl rfl rfl rfl ?_
      | refine RO.noUndef rfl rfl rfl ?_
      | refine RO.noNone rfl rfl rfl ?_
      | refine Run.cond_true rfl ?_
      | refine Run.cond_false rfl ?_
      | refine Run.skip ?_
      | refine Run.block ?_
      | refine Run.inBlock ?_
      | refine Run.exit rfl ?_
    refine Run.ret Try.func33 rfl (.tmp rfl .nil) ?_
    exact ⟨rfl, hS.picks (by focus ((repeat (first | apply Picks.all | apply Picks.nil | (refine Picks.cons (by repeat (first | apply Take.head | apply Take.tail)) ?_) | apply Picks.drop)); done))⟩
  | false =>
    rw [hka] at fk
    have hd2 : Deep L K (nd L y).a := by
      cases hd with
      | known _ h => rw [hka] at h; cases h
      | step _ h => exact h
    repeat' first
      | (refine RO.still (by apply Still.load; rfl; rfl; (exact Rd.any); exact f0) hS rfl ?_)
      | (refine RO.still (by apply Still.load; rfl; rfl; (exact Rd.any); exact f2) hS rfl ?_)
      | (refine RO.still (by apply Still.load; rfl; rfl; (exact Rd.any); exact fk) hS rfl ?_)
      | refine Run.seq ?_
      | refine Run.region ?_
      | (refine RO.split ?_ ?_ <;> intro hc <;> try (first | (exfalso; omega) | exact absurd rfl hc | exact Bool.noConfusion hc))
      | refine RO.nil ?_
      | refine RO.still (by exact Still.any) hS rfl ?_
      | (apply RO.op; apply OP.box hS; rfl; rfl; rfl; clear hS; intro b w1 hS)
      | (apply RO.op; apply OP.alloc hS; rfl; rfl; rfl; clear hS; intro b w1 hS)
      | (apply RO.op; apply OP.store hS; rfl; rfl; rfl; rfl; rfl; (focus ((repeat (first | apply Has.head | apply Take.head | apply Put.head | apply Has.tail | apply Take.tail | apply Put.tail)); done)); rfl; rfl; clear hS; intro w1 hS)
      | (apply RO.op; apply OP.buildSlice hS; rfl; rfl; (exact eqAuto); rfl; rfl; rfl; rfl; rfl; clear hS; intro b w1 hS)
      | (apply RO.op; apply OP.makeMap hS; rfl; clear hS; intro b w1 hS)
      | refine RO.yes rfl rfl ?_
      | refine RO.no rfl rfl rfl rfl ?_
      | refine RO.noUndef rfl rfl rfl ?_
      | refine RO.noNone rfl rfl rfl ?_
      | refine Run.cond_true rfl ?_
      | refine Run.cond_false rfl ?_
      | refine Run.skip ?_
      | refine Run.block ?_
      | refine Run.inBlock ?_
      | refine Run.exit rfl ?_
    refine Run.weaken (by focus ((repeat (first | exact .nil | refine .cons rfl ?_)); done)) (ih (nd L y).a _ ⟨hd2, a1, hS.picks (by focus ((repeat (first | apply Picks.all | apply Picks.nil | (refine Picks.cons (by repeat (first | apply Take.head | apply Take.tail)) ?_) | apply Picks.drop)); done))⟩ (by omega))

theorem own_calls {q : Nat} {y : Int} (hS : St we ρ (Row q [.pointer (some ⟨p, 0, none⟩)] 23 :: Arena p lim L :: F) w) :
    Cl Try.prog 47 [.int .i64 y, .pointer (some ⟨q, 0, none⟩)] w fun v w' => v = .bool (ownV L y) ∧ St we ρ (Row q [.pointer (some ⟨p, 0, none⟩)] 23 :: Arena p lim L :: F) w' := by
  unfold ownV
  by_cases h1 : (nd L y).k = 1
  · by_cases h2 : (nd L y).n < 4294967296
    · rw [decide_eq_true ⟨h1, h2⟩]
      refine Run.calls2 (n := 20) Try.func47 rfl rfl rfl ?_
      repeat' first
        | (apply RO.op; apply OP.callF; rfl; rfl; rfl; show Cl _ 35 _ _ _; exact get_calls (hS.take (by focus ((repeat (first | apply Has.head | apply Take.head | apply Put.head | apply Has.tail | apply Take.tail | apply Put.tail)); done))); clear hS; rintro v w1 ⟨rfl, hS⟩)
        | (apply OP.callF; rfl; rfl; rfl; show Cl _ 35 _ _ _; exact get_calls (hS.take (by focus ((repeat (first | apply Has.head | apply Take.head | apply Put.head | apply Has.tail | apply Take.tail | apply Put.tail)); done))); clear hS; rintro v w1 ⟨rfl, hS⟩; refine ⟨(by first | exact hS | exact hS.tail | exact hS.sublist (by repeat (first | exact List.Sublist.refl _ | refine .cons_cons _ ?_ | refine .cons _ ?_))), ?_⟩)
        | refine Run.seq ?_
        | refine Run.region ?_
        | (refine RO.split ?_ ?_ <;> intro hc <;> try (first | (exfalso; omega) | exact absurd rfl hc | exact Bool.noConfusion hc))
        | refine RO.nil ?_
        | refine RO.still (by exact Still.any) hS rfl ?_
        | (apply RO.op; apply OP.box hS; rfl; rfl; rfl; clear hS; intro b w1 hS)
        | (apply RO.op; apply OP.alloc hS; rfl; rfl; rfl; clear hS; intro b w1 hS)
        | (apply RO.op; apply OP.store hS; rfl; rfl; rfl; rfl; rfl; (focus ((repeat (first | apply Has.head | apply Take.head | apply Put.head | apply Has.tail | apply Take.tail | apply Put.tail)); done)); rfl; rfl; clear hS; intro w1 hS)
        | (apply RO.op; apply OP.buildSlice hS; rfl; rfl; (exact eqAuto); rfl; rfl; rfl; rfl; rfl; clear hS; intro b w1 hS)
        | (apply RO.op; apply OP.makeMap hS; rfl; clear hS; intro b w1 hS)
        | refine RO.yes rfl rfl ?_
        | refine RO.no rfl rfl rfl rfl ?_
        | refine RO.noUndef rfl rfl rfl ?_
        | refine RO.noNone rfl rfl rfl ?_
        | refine Run.cond_true rfl ?_
        | refine Run.cond_false rfl ?_
        | refine Run.skip ?_
        | refine Run.block ?_
        | refine Run.inBlock ?_
        | refine Run.exit rfl ?_
      refine Run.ret Try.func47 rfl (.tmp rfl .nil) ?_
      exact ⟨rfl, hS.picks (by focus ((repeat (first | apply Picks.all | apply Picks.nil | (refine Picks.cons (by repeat (first | apply Take.head | apply Take.tail)) ?_) | apply Picks.drop)); done))⟩
    · rw [decide_eq_false (fun h => h2 h.2)]
      refine Run.calls2 (n := 20) Try.func47 rfl rfl rfl ?_
      repeat' first
        | (apply RO.op; apply OP.callF; rfl; rfl; rfl; show Cl _ 35 _ _ _; exact get_calls (hS.take (by focus ((repeat (first | apply Has.head | apply Take.head | apply Put.head | apply Has.tail | apply Take.tail | apply Put.tail)); done))); clear hS; rintro v w1 ⟨rfl, hS⟩)
        | (apply OP.callF; rfl; rfl; rfl; show Cl _ 35 _ _ _; exact get_calls (hS.take (by focus ((repeat (first | apply Has.head | apply Take.head | apply Put.head | apply Has.tail | apply Take.tail | apply Put.tail)); done))); clear hS; rintro v w1 ⟨rfl, hS⟩; refine ⟨(by first | exact hS | exact hS.tail | exact hS.sublist (by repeat (first | exact List.Sublist.refl _ | refine .cons_cons _ ?_ | refine .cons _ ?_))), ?_⟩)
        | refine Run.seq ?_
        | refine Run.region ?_
        | (refine RO.split ?_ ?_ <;> intro hc <;> try (first | (exfalso; omega) | exact absurd rfl hc | exact Bool.noConfusion hc))
        | refine RO.nil ?_
        | refine RO.still (by exact Still.any) hS rfl ?_
        | (apply RO.op; apply OP.box hS; rfl; rfl; rfl; clear hS; intro b w1 hS)
        | (apply RO.op; apply OP.alloc hS; rfl; rfl; rfl; clear hS; intro b w1 hS)
        | (apply RO.op; apply OP.store hS; rfl; rfl; rfl; rfl; rfl; (focus ((repeat (first | apply Has.head | apply Take.head | apply Put.head | apply Has.tail | apply Take.tail | apply Put.tail)); done)); rfl; rfl; clear hS; intro w1 hS)
        | (apply RO.op; apply OP.buildSlice hS; rfl; rfl; (exact eqAuto); rfl; rfl; rfl; rfl; rfl; clear hS; intro b w1 hS)
        | (apply RO.op; apply OP.makeMap hS; rfl; clear hS; intro b w1 hS)
        | refine RO.yes rfl rfl ?_
        | refine RO.no rfl rfl rfl rfl ?_
        | refine RO.noUndef rfl rfl rfl ?_
        | refine RO.noNone rfl rfl rfl ?_
        | refine Run.cond_true rfl ?_
        | refine Run.cond_false rfl ?_
        | refine Run.skip ?_
        | refine Run.block ?_
        | refine Run.inBlock ?_
        | refine Run.exit rfl ?_
      refine Run.ret Try.func47 rfl (.tmp rfl .nil) ?_
      exact ⟨rfl, hS.picks (by focus ((repeat (first | apply Picks.all | apply Picks.nil | (refine Picks.cons (by repeat (first | apply Take.head | apply Take.tail)) ?_) | apply Picks.drop)); done))⟩
  · rw [decide_eq_false (fun h => h1 h.1)]
    refine Run.calls2 (n := 20) Try.func47 rfl rfl rfl ?_
    repeat' first
      | (apply RO.op; apply OP.callF; rfl; rfl; rfl; show Cl _ 35 _ _ _; exact get_calls (hS.take (by focus ((repeat (first | apply Has.head | apply Take.head | apply Put.head | apply Has.tail | apply Take.tail | apply Put.tail)); done))); clear hS; rintro v w1 ⟨rfl, hS⟩)
      | (apply OP.callF; rfl; rfl; rfl; show Cl _ 35 _ _ _; exact get_calls (hS.take (by focus ((repeat (first | apply Has.head | apply Take.head | apply Put.head | apply Has.tail | apply Take.tail | apply Put.tail)); done))); clear hS; rintro v w1 ⟨rfl, hS⟩; refine ⟨(by first | exact hS | exact hS.tail | exact hS.sublist (by repeat (first | exact List.Sublist.refl _ | refine .cons_cons _ ?_ | refine .cons _ ?_))), ?_⟩)
      | refine Run.seq ?_
      | refine Run.region ?_
      | (refine RO.split ?_ ?_ <;> intro hc <;> try (first | (exfalso; omega) | exact absurd rfl hc | exact Bool.noConfusion hc))
      | refine RO.nil ?_
      | refine RO.still (by exact Still.any) hS rfl ?_
      | (apply RO.op; apply OP.box hS; rfl; rfl; rfl; clear hS; intro b w1 hS)
      | (apply RO.op; apply OP.alloc hS; rfl; rfl; rfl; clear hS; intro b w1 hS)
      | (apply RO.op; apply OP.store hS; rfl; rfl; rfl; rfl; rfl; (focus ((repeat (first | apply Has.head | apply Take.head | apply Put.head | apply Has.tail | apply Take.tail | apply Put.tail)); done)); rfl; rfl; clear hS; intro w1 hS)
      | (apply RO.op; apply OP.buildSlice hS; rfl; rfl; (exact eqAuto); rfl; rfl; rfl; rfl; rfl; clear hS; intro b w1 hS)
      | (apply RO.op; apply OP.makeMap hS; rfl; clear hS; intro b w1 hS)
      | refine RO.yes rfl rfl ?_
      | refine RO.no rfl rfl rfl rfl ?_
      | refine RO.noUndef rfl rfl rfl ?_
      | refine RO.noNone rfl rfl rfl ?_
      | refine Run.cond_true rfl ?_
      | refine Run.cond_false rfl ?_
      | refine Run.skip ?_
      | refine Run.block ?_
      | refine Run.inBlock ?_
      | refine Run.exit rfl ?_
    refine Run.ret Try.func47 rfl (.tmp rfl .nil) ?_
    exact ⟨rfl, hS.picks (by focus ((repeat (first | apply Picks.all | apply Picks.nil | (refine Picks.cons (by repeat (first | apply Take.head | apply Take.tail)) ?_) | apply Picks.drop)); done))⟩
theorem own_is {q : Nat} {y : Int} {b : Bool} (h : ownV L y = b) (hS : St we ρ (Row q [.pointer (some ⟨p, 0, none⟩)] 23 :: Arena p lim L :: F) w) :
    Cl Try.prog 47 [.int .i64 y, .pointer (some ⟨q, 0, none⟩)] w fun v w' => v = .bool b ∧ St we ρ (Row q [.pointer (some ⟨p, 0, none⟩)] 23 :: Arena p lim L :: F) w' := by
  have := own_calls (y := y) hS
  rwa [h] at this

set_option maxHeartbeats 8000000 in
theorem parted_calls {x : Int} (hh : ∀ x, K x = true → has L x = true) (hx : has L x = true) (hS : St we ρ (KN kb p heard K :: Arena p lim L :: F) w) :
    Cl Try.prog 30 [.pointer (some ⟨p, 0, none⟩), .pointer (some ⟨kb, 0, none⟩), .int .i64 x] w fun v w' => v = .bool false ∧ St we ρ (KN kb p heard K :: Arena p lim L :: F) w' := by
  obtain ⟨g, hS1⟩ := arena_good (hS.take (.tail .head))
  clear hS1
  by_cases h3 : (nd L x).k = 3
  rotate_left
  · refine Run.calls3 (n := 53) Try.func30 rfl rfl rfl ?_
    repeat' first
      | (apply RO.op; apply OP.callF; rfl; rfl; rfl; show Cl _ 20 _ _ _; exact secrets_calls (hS.take (by focus ((repeat (first | apply Has.head | apply Take.head | apply Put.head | apply Has.tail | apply Take.tail | apply Put.tail)); done))); clear hS; rintro v w1 ⟨rfl, hS⟩; rw [if_neg h3, if_neg h3, decide_eq_false h3])
      | (apply OP.callF; rfl; rfl; rfl; show Cl _ 20 _ _ _; exact secrets_calls (hS.take (by focus ((repeat (first | apply Has.head | apply Take.head | apply Put.head | apply Has.tail | apply Take.tail | apply Put.tail)); done))); clear hS; rintro v w1 ⟨rfl, hS⟩; rw [if_neg h3, if_neg h3, decide_eq_false h3]; refine ⟨(by first | exact hS | exact hS.tail | exact hS.sublist (by repeat (first | exact List.Sublist.refl _ | refine .cons_cons _ ?_ | refine .cons _ ?_))), ?_⟩)
      | refine Run.seq ?_
      | refine Run.region ?_
      | (refine RO.split ?_ ?_ <;> intro hc <;> try (first | (exfalso; omega) | exact absurd rfl hc | exact Bool.noConfusion hc))
      | refine RO.nil ?_
      | refine RO.still (by exact Still.any) hS rfl ?_
      | (apply RO.op; apply OP.box hS; rfl; rfl; rfl; clear hS; intro b w1 hS)
      | (apply RO.op; apply OP.alloc hS; rfl; rfl; rfl; clear hS; intro b w1 hS)
      | (apply RO.op; apply OP.store hS; rfl; rfl; rfl; rfl; rfl; (focus ((repeat (first | apply Has.head | apply Take.head | apply Put.head | apply Has.tail | apply Take.tail | apply Put.tail)); done)); rfl; rfl; clear hS; intro w1 hS)
      | (apply RO.op; apply OP.buildSlice hS; rfl; rfl; (exact eqAuto); rfl; rfl; rfl; rfl; rfl; clear hS; intro b w1 hS)
      | (apply RO.op; apply OP.makeMap hS; rfl; clear hS; intro b w1 hS)
      | refine RO.yes rfl rfl ?_
      | refine RO.no rfl rfl rfl rfl ?_
      | refine RO.noUndef rfl rfl rfl ?_
      | refine RO.noNone rfl rfl rfl ?_
      | refine Run.cond_true rfl ?_
      | refine Run.cond_false rfl ?_
      | refine Run.skip ?_
      | refine Run.block ?_
      | refine Run.inBlock ?_
      | refine Run.exit rfl ?_
    refine Run.ret Try.func30 rfl (.tmp rfl .nil) ?_
    exact ⟨rfl, hS.picks (by focus ((repeat (first | apply Picks.all | apply Picks.nil | (refine Picks.cons (by repeat (first | apply Take.head | apply Take.tail)) ?_) | apply Picks.drop)); done))⟩
  obtain ⟨oa, hoa⟩ : ∃ b, ownV L (nd L x).a = b := ⟨_, rfl⟩
  obtain ⟨ob, hob⟩ : ∃ b, ownV L (nd L x).b = b := ⟨_, rfl⟩
  obtain ⟨cx, hcx⟩ : ∃ b, can L K x = b := ⟨_, rfl⟩
  obtain ⟨kx, hkx⟩ : ∃ b, K x = b := ⟨_, rfl⟩
  obtain ⟨ca, hca⟩ : ∃ b, can L K (nd L x).a = b := ⟨_, rfl⟩
  obtain ⟨cb, hcb⟩ : ∃ b, can L K (nd L x).b = b := ⟨_, rfl⟩
  have hcs : oa = false ∨ (oa = true ∧ ob = false) ∨ (oa = true ∧ ob = true ∧ cx = false) ∨ (oa = true ∧ ob = true ∧ cx = true ∧ kx = true) ∨ (oa = true ∧ ob = true ∧ cx = true ∧ kx = false ∧ ca = true) ∨ (oa = true ∧ ob = true ∧ cx = true ∧ kx = false ∧ ca = false ∧ cb = true) := by
    have hn := fun h1 h2 => parted_never (K := K) g hx h3 h1 h2
    rw [hcx, hkx, hca, hcb] at hn
    cases oa <;> cases ob <;> cases cx <;> cases kx <;> cases ca <;> cases cb <;> simp at hn ⊢
  rcases hcs with rfl | ⟨rfl, rfl⟩ | ⟨rfl, rfl, rfl⟩ | ⟨rfl, rfl, rfl, rfl⟩ | ⟨rfl, rfl, rfl, rfl, rfl⟩ | ⟨rfl, rfl, rfl, rfl, rfl, rfl⟩
  all_goals
    refine Run.calls3 (n := 53) Try.func30 rfl rfl rfl ?_
    repeat' first
      | (apply RO.op; apply OP.callF; rfl; rfl; rfl; show Cl _ 20 _ _ _; exact secrets_calls (hS.take (by focus ((repeat (first | apply Has.head | apply Take.head | apply Put.head | apply Has.tail | apply Take.tail | apply Put.tail)); done))); clear hS; rintro v w1 ⟨rfl, hS⟩; rw [if_pos h3, if_pos h3, decide_eq_true h3])
      | (apply OP.callF; rfl; rfl; rfl; show Cl _ 20 _ _ _; exact secrets_calls (hS.take (by focus ((repeat (first | apply Has.head | apply Take.head | apply Put.head | apply Has.tail | apply Take.tail | apply Put.tail)); done))); clear hS; rintro v w1 ⟨rfl, hS⟩; rw [if_pos h3, if_pos h3, decide_eq_true h3]; refine ⟨(by first | exact hS | exact hS.tail | exact hS.sublist (by repeat (first | exact List.Sublist.refl _ | refine .cons_cons _ ?_ | refine .cons _ ?_))), ?_⟩)
      | (apply RO.op; apply OP.callV; rfl; rfl; rfl; rfl; (first | (show Cl _ _ [.int .i64 (nd L x).a, _] _ _; exact own_is hoa (hS.take2 (by focus ((repeat (first | apply Has.head | apply Take.head | apply Put.head | apply Has.tail | apply Take.tail | apply Put.tail)); done)) (by focus ((repeat (first | apply Has.head | apply Take.head | apply Put.head | apply Has.tail | apply Take.tail | apply Put.tail)); done)))) | (show Cl _ _ [.int .i64 (nd L x).b, _] _ _; exact own_is hob (hS.take2 (by focus ((repeat (first | apply Has.head | apply Take.head | apply Put.head | apply Has.tail | apply Take.tail | apply Put.tail)); done)) (by focus ((repeat (first | apply Has.head | apply Take.head | apply Put.head | apply Has.tail | apply Take.tail | apply Put.tail)); done))))); clear hS; rintro v w1 ⟨rfl, hS⟩)
      | (apply RO.op; apply OP.callF; rfl; rfl; rfl; show Cl _ 43 [_, .int .i64 x] _ _; exact kcan_is hh hcx (hS.take2 (by focus ((repeat (first | apply Has.head | apply Take.head | apply Put.head | apply Has.tail | apply Take.tail | apply Put.tail)); done)) (by focus ((repeat (first | apply Has.head | apply Take.head | apply Put.head | apply Has.tail | apply Take.tail | apply Put.tail)); done))); clear hS; rintro v w1 ⟨rfl, hS⟩)
      | (apply RO.op; apply OP.callF; rfl; rfl; rfl; show Cl _ 43 [_, .int .i64 (nd L x).a] _ _; exact kcan_is hh hca (hS.take2 (by focus ((repeat (first | apply Has.head | apply Take.head | apply Put.head | apply Has.tail | apply Take.tail | apply Put.tail)); done)) (by focus ((repeat (first | apply Has.head | apply Take.head | apply Put.head | apply Has.tail | apply Take.tail | apply Put.tail)); done))); clear hS; rintro v w1 ⟨rfl, hS⟩)
      | (apply RO.op; apply OP.callF; rfl; rfl; rfl; show Cl _ 43 [_, .int .i64 (nd L x).b] _ _; exact kcan_is hh hcb (hS.take2 (by focus ((repeat (first | apply Has.head | apply Take.head | apply Put.head | apply Has.tail | apply Take.tail | apply Put.tail)); done)) (by focus ((repeat (first | apply Has.head | apply Take.head | apply Put.head | apply Has.tail | apply Take.tail | apply Put.tail)); done))); clear hS; rintro v w1 ⟨rfl, hS⟩)
      | (apply RO.op; apply OP.callF; rfl; rfl; rfl; show Cl _ 46 _ _ _; exact knows_is hkx (hS.take (by focus ((repeat (first | apply Has.head | apply Take.head | apply Put.head | apply Has.tail | apply Take.tail | apply Put.tail)); done))); clear hS; rintro v w1 ⟨rfl, hS⟩)
      | (apply OP.callF; rfl; rfl; rfl; show Cl _ 46 _ _ _; exact knows_is hkx (hS.take (by focus ((repeat (first | apply Has.head | apply Take.head | apply Put.head | apply Has.tail | apply Take.tail | apply Put.tail)); done))); clear hS; rintro v w1 ⟨rfl, hS⟩; refine ⟨(by first | exact hS | exact hS.tail | exact hS.sublist (by repeat (first | exact List.Sublist.refl _ | refine .cons_cons _ ?_ | refine .cons _ ?_))), ?_⟩)
      | refine Run.seq ?_
      | refine Run.region ?_
      | (refine RO.split ?_ ?_ <;> intro hc <;> try (first | (exfalso; omega) | exact absurd rfl hc | exact Bool.noConfusion hc))
      | refine RO.nil ?_
      | refine RO.still (by exact Still.any) hS rfl ?_
      | (apply RO.op; apply OP.box hS; rfl; rfl; rfl; clear hS; intro b w1 hS)
      | (apply RO.op; apply OP.alloc hS; rfl; rfl; rfl; clear hS; intro b w1 hS)
      | (apply RO.op; apply OP.store hS; rfl; rfl; rfl; rfl; rfl; (focus ((repeat (first | apply Has.head | apply Take.head | apply Put.head | apply Has.tail | apply Take.tail | apply Put.tail)); done)); rfl; rfl; clear hS; intro w1 hS)
      | (apply RO.op; apply OP.buildSlice hS; rfl; rfl; (exact eqAuto); rfl; rfl; rfl; rfl; rfl; clear hS; intro b w1 hS)
      | (apply RO.op; apply OP.makeMap hS; rfl; clear hS; intro b w1 hS)
      | refine RO.yes rfl rfl ?_
      | refine RO.no rfl rfl rfl rfl ?_
      | refine RO.noUndef rfl rfl rfl ?_
      | refine RO.noNone rfl rfl rfl ?_
      | refine Run.cond_true rfl ?_
      | refine Run.cond_false rfl ?_
      | refine Run.skip ?_
      | refine Run.block ?_
      | refine Run.inBlock ?_
      | refine Run.exit rfl ?_
    refine Run.ret Try.func30 rfl (.tmp rfl .nil) ?_
    exact ⟨rfl, hS.picks (by focus ((repeat (first | apply Picks.all | apply Picks.nil | (refine Picks.cons (by repeat (first | apply Take.head | apply Take.tail)) ?_) | apply Picks.drop)); done))⟩

set_option maxHeartbeats 8000000 in
theorem refParted {x : Int} {gc cc gk ck : Nat} {spc spk : List Value} (g : Good lim L) (hx : has L x = true) (hS : St we ρ (Row r (flat L ++ spare) 58 :: Row gc (boolsL L (can L K) ++ spc) 4 :: Row gk (boolsL L K ++ spk) 4 :: F) w) :
    Cl Try.prog 32 [raV lim' r L.length cap, .slice (some ⟨gc, 0, none⟩) L.length cc, .slice (some ⟨gk, 0, none⟩) L.length ck, .int .i64 x] w fun v w' => v = .bool false ∧ St we ρ (Row r (flat L ++ spare) 58 :: Row gc (boolsL L (can L K) ++ spc) 4 :: Row gk (boolsL L K ++ spk) 4 :: F) w' := by
  have hlim := g.lim
  have hlen := g.len
  have hx2 := has_iff.1 hx
  have f0 := flat_get0 (spare := spare) hx
  by_cases h3 : (nd L x).k = 3
  rotate_left
  · refine Run.calls4 (n := 95) Try.func32 rfl rfl rfl ?_
    repeat' first
      | (apply RO.op; apply OP.callF; rfl; rfl; rfl; show Cl _ 21 _ _ _; exact refHas_is hx hS; clear hS; rintro v w1 ⟨rfl, hS⟩)
      | (apply OP.callF; rfl; rfl; rfl; show Cl _ 21 _ _ _; exact refHas_is hx hS; clear hS; rintro v w1 ⟨rfl, hS⟩; refine ⟨(by first | exact hS | exact hS.tail | exact hS.sublist (by repeat (first | exact List.Sublist.refl _ | refine .cons_cons _ ?_ | refine .cons _ ?_))), ?_⟩)
      | (refine RO.still (by apply Still.load; rfl; rfl; (exact Rd.any); exact f0) hS rfl ?_)
      | refine Run.seq ?_
      | refine Run.region ?_
      | (refine RO.split ?_ ?_ <;> intro hc <;> try (first | (exfalso; omega) | exact absurd rfl hc | exact Bool.noConfusion hc))
      | refine RO.nil ?_
      | refine RO.still (by exact Still.any) hS rfl ?_
      | (apply RO.op; apply OP.box hS; rfl; rfl; rfl; clear hS; intro b w1 hS)
      | (apply RO.op; apply OP.alloc hS; rfl; rfl; rfl; clear hS; intro b w1 hS)
      | (apply RO.op; apply OP.store hS; rfl; rfl; rfl; rfl; rfl; (focus ((repeat (first | apply Has.head | apply Take.head | apply Put.head | apply Has.tail | apply Take.tail | apply Put.tail)); done)); rfl; rfl; clear hS; intro w1 hS)
      | (apply RO.op; apply OP.buildSlice hS; rfl; rfl; (exact eqAuto); rfl; rfl; rfl; rfl; rfl; clear hS; intro b w1 hS)
      | (apply RO.op; apply OP.makeMap hS; rfl; clear hS; intro b w1 hS)
      | refine RO.yes rfl rfl ?_
      | refine RO.no rfl rfl rfl rfl ?_
      | refine RO.noUndef rfl rfl rfl ?_
      | refine RO.noNone rfl rfl rfl ?_
      | refine Run.cond_true rfl ?_
      | refine Run.cond_false rfl ?_
      | refine Run.skip ?_
      | refine Run.block ?_
      | refine Run.inBlock ?_
      | refine Run.exit rfl ?_
    refine Run.ret Try.func32 rfl (.tmp rfl .nil) ?_
    exact ⟨rfl, hS.picks (by focus ((repeat (first | apply Picks.all | apply Picks.nil | (refine Picks.cons (by repeat (first | apply Take.head | apply Take.tail)) ?_) | apply Picks.drop)); done))⟩
  rcases nd_parts g hx with h | ⟨a1, a2, a3, b1, b2, b3⟩
  · omega
  have r1 := has_iff.1 a1
  have r2 := has_iff.1 a2
  have f2 := flat_get2 (spare := spare) hx
  have f3 := flat_get3 (spare := spare) hx
  have pa0 := flat_get0 (spare := spare) a1
  have pa1 := flat_get1 (spare := spare) a1
  have pb0 := flat_get0 (spare := spare) a2
  have pb1 := flat_get1 (spare := spare) a2
  have fcx : (boolsL L (can L K) ++ spc)[x.toNat]? = some (.bool (can L K x)) := boolsL_get hx
  have fkx : (boolsL L K ++ spk)[x.toNat]? = some (.bool (K x)) := boolsL_get hx
  have fca : (boolsL L (can L K) ++ spc)[(nd L x).a.toNat]? = some (.bool (can L K (nd L x).a)) := boolsL_get a1
  have fcb : (boolsL L (can L K) ++ spc)[(nd L x).b.toNat]? = some (.bool (can L K (nd L x).b)) := boolsL_get a2
  obtain ⟨cx, hcx⟩ : ∃ b, can L K x = b := ⟨_, rfl⟩
  obtain ⟨kx, hkx⟩ : ∃ b, K x = b := ⟨_, rfl⟩
  obtain ⟨ca, hca⟩ : ∃ b, can L K (nd L x).a = b := ⟨_, rfl⟩
  obtain ⟨cb, hcb⟩ : ∃ b, can L K (nd L x).b = b := ⟨_, rfl⟩
  have hcs : cx = false ∨ (cx = true ∧ kx = true) ∨ (cx = true ∧ kx = false ∧ ca = true) ∨ (cx = true ∧ kx = false ∧ ca = false ∧ cb = true) := by
    have hn := fun h1 h2 => parted_never (K := K) g hx h3 h1 h2
    rw [hcx, hkx, hca, hcb] at hn
    cases cx <;> cases kx <;> cases ca <;> cases cb <;> simp at hn ⊢
  rw [hcx] at fcx
  rw [hkx] at fkx
  rw [hca] at fca
  rw [hcb] at fcb
  rcases hcs with rfl | ⟨rfl, rfl⟩ | ⟨rfl, rfl, rfl⟩ | ⟨rfl, rfl, rfl, rfl⟩
  all_goals
    refine Run.calls4 (n := 95) Try.func32 rfl rfl rfl ?_
    repeat' first
      | (apply RO.op; apply OP.callF; rfl; rfl; rfl; show Cl _ 21 _ _ _; exact refHas_is hx hS; clear hS; rintro v w1 ⟨rfl, hS⟩)
      | (apply OP.callF; rfl; rfl; rfl; show Cl _ 21 _ _ _; exact refHas_is hx hS; clear hS; rintro v w1 ⟨rfl, hS⟩; refine ⟨(by first | exact hS | exact hS.tail | exact hS.sublist (by repeat (first | exact List.Sublist.refl _ | refine .cons_cons _ ?_ | refine .cons _ ?_))), ?_⟩)
      | (refine RO.still (by apply Still.load; rfl; rfl; (exact Rd.any); exact f0) hS rfl ?_)
      | (refine RO.still (by apply Still.load; rfl; rfl; (exact Rd.any); exact f2) hS rfl ?_)
      | (refine RO.still (by apply Still.load; rfl; rfl; (exact Rd.any); exact f3) hS rfl ?_)
      | (refine RO.still (by apply Still.load; rfl; rfl; (exact Rd.any); exact pa0) hS rfl ?_)
      | (refine RO.still (by apply Still.load; rfl; rfl; (exact Rd.any); exact pa1) hS rfl ?_)
      | (refine RO.still (by apply Still.load; rfl; rfl; (exact Rd.any); exact pb0) hS rfl ?_)
      | (refine RO.still (by apply Still.load; rfl; rfl; (exact Rd.any); exact pb1) hS rfl ?_)
      | (refine RO.still (by apply Still.load; rfl; rfl; (exact Rd.any); exact fcx) hS rfl ?_)
      | (refine RO.still (by apply Still.load; rfl; rfl; (exact Rd.any); exact fkx) hS rfl ?_)
      | (refine RO.still (by apply Still.load; rfl; rfl; (exact Rd.any); exact fca) hS rfl ?_)
      | (refine RO.still (by apply Still.load; rfl; rfl; (exact Rd.any); exact fcb) hS rfl ?_)
      | refine Run.seq ?_
      | refine Run.region ?_
      | (refine RO.split ?_ ?_ <;> intro hc <;> try (first | (exfalso; omega) | exact absurd rfl hc | exact Bool.noConfusion hc))
      | refine RO.nil ?_
      | refine RO.still (by exact Still.any) hS rfl ?_
      | (apply RO.op; apply OP.box hS; rfl; rfl; rfl; clear hS; intro b w1 hS)
      | (apply RO.op; apply OP.alloc hS; rfl; rfl; rfl; clear hS; intro b w1 hS)
      | (apply RO.op; apply OP.store hS; rfl; rfl; rfl; rfl; rfl; (focus ((repeat (first | apply Has.head | apply Take.head | apply Put.head | apply Has.tail | apply Take.tail | apply Put.tail)); done)); rfl; rfl; clear hS; intro w1 hS)
      | (apply RO.op; apply OP.buildSlice hS; rfl; rfl; (exact eqAuto); rfl; rfl; rfl; rfl; rfl; clear hS; intro b w1 hS)
      | (apply RO.op; apply OP.makeMap hS; rfl; clear hS; intro b w1 hS)
      | refine RO.yes rfl rfl ?_
      | refine RO.no rfl rfl rfl rfl ?_
      | refine RO.noUndef rfl rfl rfl ?_
      | refine RO.noNone rfl rfl rfl ?_
      | refine Run.cond_true rfl ?_
      | refine Run.cond_false rfl ?_
      | refine Run.skip ?_
      | refine Run.block ?_
      | refine Run.inBlock ?_
      | refine Run.exit rfl ?_
    all_goals
      refine Run.ret Try.func32 rfl (.tmp rfl .nil) ?_
      exact ⟨rfl, hS.picks (by focus ((repeat (first | apply Picks.all | apply Picks.nil | (refine Picks.cons (by repeat (first | apply Take.head | apply Take.tail)) ?_) | apply Picks.drop)); done))⟩

set_option maxHeartbeats 8000000 in
theorem short_calls {x : Int} (hh : ∀ x, K x = true → has L x = true) (hx : has L x = true) (hS : St we ρ (KN kb p heard K :: Arena p lim L :: F) w) :
    Cl Try.prog 29 [.pointer (some ⟨p, 0, none⟩), .pointer (some ⟨kb, 0, none⟩), .int .i64 x] w fun v w' => St we ρ (Vec 3 1 v (shortL L K x).length ((shortL L K x).flatMap intL) :: KN kb p heard K :: Arena p lim L :: F) w' := by
  obtain ⟨g, hS1⟩ := arena_good (hS.take (.tail .head))
  clear hS1
  have hlim := g.lim
  have hlen := g.len
  have hx2 := has_iff.1 hx
  unfold shortL
  obtain ⟨cx, hcx⟩ : ∃ b, can L K x = b := ⟨_, rfl⟩
  obtain ⟨kx, hkx⟩ : ∃ b, K x = b := ⟨_, rfl⟩
  by_cases hcs : cx = true ∧ kx = false
  rotate_left
  · rw [if_neg (by rw [hcx, hkx]; exact hcs)]
    have hcs2 : cx = false ∨ (cx = true ∧ kx = true) := by cases cx <;> cases kx <;> simp at hcs ⊢
    rcases hcs2 with rfl | ⟨rfl, rfl⟩
    all_goals
      refine Run.calls3 (n := 37) Try.func29 rfl rfl rfl ?_
      repeat' first
        | (apply RO.op; apply OP.callF; rfl; rfl; rfl; show Cl _ 43 _ _ _; exact kcan_is hh hcx (hS.take2 (by focus ((repeat (first | apply Has.head | apply Take.head | apply Put.head | apply Has.tail | apply Take.tail | apply Put.tail)); done)) (by focus ((repeat (first | apply Has.head | apply Take.head | apply Put.head | apply Has.tail | apply Take.tail | apply Put.tail)); done))); clear hS; rintro v w1 ⟨rfl, hS⟩)
        | (apply OP.callF; rfl; rfl; rfl; show Cl _ 43 _ _ _; exact kcan_is hh hcx (hS.take2 (by focus ((repeat (first | apply Has.head | apply Take.head | apply Put.head | apply Has.tail | apply Take.tail | apply Put.tail)); done)) (by focus ((repeat (first | apply Has.head | apply Take.head | apply Put.head | apply Has.tail | apply Take.tail | apply Put.tail)); done))); clear hS; rintro v w1 ⟨rfl, hS⟩; refine ⟨(by first | exact hS | exact hS.tail | exact hS.sublist (by repeat (first | exact List.Sublist.refl _ | refine .cons_cons _ ?_ | refine .cons _ ?_))), ?_⟩)
        | (apply RO.op; apply OP.callF; rfl; rfl; rfl; show Cl _ 46 _ _ _; exact knows_is hkx (hS.take (by focus ((repeat (first | apply Has.head | apply Take.head | apply Put.head | apply Has.tail | apply Take.tail | apply Put.tail)); done))); clear hS; rintro v w1 ⟨rfl, hS⟩)
        | (apply OP.callF; rfl; rfl; rfl; show Cl _ 46 _ _ _; exact knows_is hkx (hS.take (by focus ((repeat (first | apply Has.head | apply Take.head | apply Put.head | apply Has.tail | apply Take.tail | apply Put.tail)); done))); clear hS; rintro v w1 ⟨rfl, hS⟩; refine ⟨(by first | exact hS | exact hS.tail | exact hS.sublist (by repeat (first | exact List.Sublist.refl _ | refine .cons_cons _ ?_ | refine .cons _ ?_))), ?_⟩)
        | refine Run.seq ?_
        | refine Run.region ?_
        | (refine RO.split ?_ ?_ <;> intro hc <;> try (first | (exfalso; omega) | exact absurd rfl hc | exact Bool.noConfusion hc))
        | refine RO.nil ?_
        | refine RO.still (by exact Still.any) hS rfl ?_
        | (apply RO.op; apply OP.box hS; rfl; rfl; rfl; clear hS; intro b w1 hS)
        | (apply RO.op; apply OP.alloc hS; rfl; rfl; rfl; clear hS; intro b w1 hS)
        | (apply RO.op; apply OP.store hS; rfl; rfl; rfl; rfl; rfl; (focus ((repeat (first | apply Has.head | apply Take.head | apply Put.head | apply Has.tail | apply Take.tail | apply Put.tail)); done)); rfl; rfl; clear hS; intro w1 hS)
        | (apply RO.op; apply OP.buildSlice hS; rfl; rfl; (exact eqAuto); rfl; rfl; rfl; rfl; rfl; clear hS; intro b w1 hS)
        | (apply RO.op; apply OP.makeMap hS; rfl; clear hS; intro b w1 hS)
        | refine RO.yes rfl rfl ?_
        | refine RO.no rfl rfl rfl rfl ?_
        | refine RO.noUndef rfl rfl rfl ?_
        | refine RO.noNone rfl rfl rfl ?_
        | refine Run.cond_true rfl ?_
        | refine Run.cond_false rfl ?_
        | refine Run.skip ?_
        | refine Run.block ?_
        | refine Run.inBlock ?_
        | refine Run.exit rfl ?_
      refine Run.ret Try.func29 rfl (.tmp rfl .nil) ?_
      exact (vec_nil hS).picks (by focus ((repeat (first | apply Picks.all | apply Picks.nil | (refine Picks.cons (by repeat (first | apply Take.head | apply Take.tail)) ?_) | apply Picks.drop)); done))
  rw [if_pos (by rw [hcx, hkx]; exact hcs)]
  obtain ⟨rfl, rfl⟩ := hcs
  have hml := mixed_len g x.toNat x (Nat.le_refl _) hx2.1
  refine Run.calls3 (n := 37) Try.func29 rfl rfl rfl ?_
  repeat' first
    | (apply RO.op; apply OP.callF; rfl; rfl; rfl; show Cl _ 43 _ _ _; exact kcan_is hh hcx (hS.take2 (by focus ((repeat (first | apply Has.head | apply Take.head | apply Put.head | apply Has.tail | apply Take.tail | apply Put.tail)); done)) (by focus ((repeat (first | apply Has.head | apply Take.head | apply Put.head | apply Has.tail | apply Take.tail | apply Put.tail)); done))); clear hS; rintro v w1 ⟨rfl, hS⟩)
    | (apply OP.callF; rfl; rfl; rfl; show Cl _ 43 _ _ _; exact kcan_is hh hcx (hS.take2 (by focus ((repeat (first | apply Has.head | apply Take.head | apply Put.head | apply Has.tail | apply Take.tail | apply Put.tail)); done)) (by focus ((repeat (first | apply Has.head | apply Take.head | apply Put.head | apply Has.tail | apply Take.tail | apply Put.tail)); done))); clear hS; rintro v w1 ⟨rfl, hS⟩; refine ⟨(by first | exact hS | exact hS.tail | exact hS.sublist (by repeat (first | exact List.Sublist.refl _ | refine .cons_cons _ ?_ | refine .cons _ ?_))), ?_⟩)
    | (apply RO.op; apply OP.callF; rfl; rfl; rfl; show Cl _ 46 _ _ _; exact knows_is hkx (hS.take (by focus ((repeat (first | apply Has.head | apply Take.head | apply Put.head | apply Has.tail | apply Take.tail | apply Put.tail)); done))); clear hS; rintro v w1 ⟨rfl, hS⟩)
    | (apply OP.callF; rfl; rfl; rfl; show Cl _ 46 _ _ _; exact knows_is hkx (hS.take (by focus ((repeat (first | apply Has.head | apply Take.head | apply Put.head | apply Has.tail | apply Take.tail | apply Put.tail)); done))); clear hS; rintro v w1 ⟨rfl, hS⟩; refine ⟨(by first | exact hS | exact hS.tail | exact hS.sublist (by repeat (first | exact List.Sublist.refl _ | refine .cons_cons _ ?_ | refine .cons _ ?_))), ?_⟩)
    | (apply RO.op; apply OP.callF; rfl; rfl; rfl; show Cl _ 13 _ _ _; exact mixed_calls (hS.take (by focus ((repeat (first | apply Has.head | apply Take.head | apply Put.head | apply Has.tail | apply Take.tail | apply Put.tail)); done))); clear hS; intro v w1 hS; obtain ⟨ρ1, o1, s1, hT⟩ := vec_freeze intL_length hS; clear hS; have hS := hT; clear hT; obtain ⟨pm, cm, rfl, km1, km2, _⟩ := s1.val)
    | (apply OP.callF; rfl; rfl; rfl; show Cl _ 13 _ _ _; exact mixed_calls (hS.take (by focus ((repeat (first | apply Has.head | apply Take.head | apply Put.head | apply Has.tail | apply Take.tail | apply Put.tail)); done))); clear hS; intro v w1 hS; obtain ⟨ρ1, o1, s1, hT⟩ := vec_freeze intL_length hS; clear hS; have hS := hT; clear hT; obtain ⟨pm, cm, rfl, km1, km2, _⟩ := s1.val; refine ⟨(by first | exact hS | exact hS.tail | exact hS.sublist (by repeat (first | exact List.Sublist.refl _ | refine .cons_cons _ ?_ | refine .cons _ ?_))), ?_⟩)
    | refine Run.seq ?_
    | refine Run.region ?_
    | (refine RO.split ?_ ?_ <;> intro hc <;> try (first | (exfalso; omega) | exact absurd rfl hc | exact Bool.noConfusion hc))
    | refine RO.nil ?_
    | refine RO.still (by exact Still.any) hS rfl ?_
    | (apply RO.op; apply OP.box hS; rfl; rfl; rfl; clear hS; intro b w1 hS)
    | (apply RO.op; apply OP.alloc hS; rfl; rfl; rfl; clear hS; intro b w1 hS)
    | (apply RO.op; apply OP.store hS; rfl; rfl; rfl; rfl; rfl; (focus ((repeat (first | apply Has.head | apply Take.head | apply Put.head | apply Has.tail | apply Take.tail | apply Put.tail)); done)); rfl; rfl; clear hS; intro w1 hS)
    | (apply RO.op; apply OP.buildSlice hS; rfl; rfl; (exact eqAuto); rfl; rfl; rfl; rfl; rfl; clear hS; intro b w1 hS)
    | (apply RO.op; apply OP.makeMap hS; rfl; clear hS; intro b w1 hS)
    | refine RO.yes rfl rfl ?_
    | refine RO.no rfl rfl rfl rfl ?_
    | refine RO.noUndef rfl rfl rfl ?_
    | refine RO.noNone rfl rfl rfl ?_
    | refine Run.cond_true rfl ?_
    | refine Run.cond_false rfl ?_
    | refine Run.skip ?_
    | refine Run.block ?_
    | refine Run.inBlock ?_
    | refine Run.exit rfl ?_
  generalize mixed L x = M at s1 hml km1
  unfold maxLen at km2
  refine Run.while (fun q : Nat × Value => [(1, .pointer (some ⟨kb, 0, none⟩)), (7, q.2), (21, .slice pm M.length cm), (22, .int .i64 M.length), (23, .int .i64 q.1)])
    (fun q w => q.1 ≤ M.length ∧ St we ρ1 (Vec 3 1 q.2 ((M.take q.1).filter fun y => !can L K y).length (((M.take q.1).filter fun y => !can L K y).flatMap intL) :: KN kb p heard K :: Arena p lim L :: F) w) (fun q => M.length - q.1) (0, .slice none 0 0)
    ⟨by simp, (vec_nil hS).picks (by focus ((repeat (first | apply Picks.all | apply Picks.nil | (refine Picks.cons (by repeat (first | apply Take.head | apply Take.tail)) ?_) | apply Picks.drop)); done))⟩ (by focus ((repeat (first | exact .nil | refine .cons rfl ?_)); done)) ?_
  clear hS
  rintro ⟨i, ov⟩ w ⟨hi, hS⟩ ih
  simp only at hi hS ih ⊢
  by_cases hlt : i < M.length
  · obtain ⟨b1, o1', cs1, el1, f1, rfl, m1, hx1⟩ := s1.int hlt
    have e0 := filter_snoc (p := fun y => !can L K y) hlt
    have hol : ((M.take i).filter fun y => !can L K y).length ≤ 65536 := by
      have := List.length_filter_le (fun y => !can L K y) (M.take i)
      rw [List.length_take] at this
      omega
    generalize M[i] = y at hx1 e0
    generalize (M.take i).filter (fun y => !can L K y) = out at hS e0 hol
    cases hcan : can L K y with
    | true =>
      rw [if_neg (by simp [hcan]), List.append_nil] at e0
      repeat' first
        | (refine RO.still (by apply Still.load; rfl; rfl; exact Rd.ro m1; exact hx1) hS rfl ?_)
        | (apply RO.op; apply OP.callF; rfl; rfl; rfl; show Cl _ 43 _ _ _; exact kcan_is hh hcan (hS.take2 (by focus ((repeat (first | apply Has.head | apply Take.head | apply Put.head | apply Has.tail | apply Take.tail | apply Put.tail)); done)) (by focus ((repeat (first | apply Has.head | apply Take.head | apply Put.head | apply Has.tail | apply Take.tail | apply Put.tail)); done))); clear hS; rintro v w1 ⟨rfl, hS⟩)
        | (apply OP.callF; rfl; rfl; rfl; show Cl _ 43 _ _ _; exact kcan_is hh hcan (hS.take2 (by focus ((repeat (first | apply Has.head | apply Take.head | apply Put.head | apply Has.tail | apply Take.tail | apply Put.tail)); done)) (by focus ((repeat (first | apply Has.head | apply Take.head | apply Put.head | apply Has.tail | apply Take.tail | apply Put.tail)); done))); clear hS; rintro v w1 ⟨rfl, hS⟩; refine ⟨(by first | exact hS | exact hS.tail | exact hS.sublist (by repeat (first | exact List.Sublist.refl _ | refine .cons_cons _ ?_ | refine .cons _ ?_))), ?_⟩)
        | refine Run.seq ?_
        | refine Run.region ?_
        | (refine RO.split ?_ ?_ <;> intro hc <;> try (first | (exfalso; omega) | exact absurd rfl hc | exact Bool.noConfusion hc))
        | refine RO.nil ?_
        | refine RO.still (by exact Still.any) hS rfl ?_
        | (apply RO.op; apply OP.box hS; rfl; rfl; rfl; clear hS; intro b w1 hS)
        | (apply RO.op; apply OP.alloc hS; rfl; rfl; rfl; clear hS; intro b w1 hS)
        | (apply RO.op; apply OP.store hS; rfl; rfl; rfl; rfl; rfl; (focus ((repeat (first | apply Has.head | apply Take.head | apply Put.head | apply Has.tail | apply Take.tail | apply Put.tail)); done)); rfl; rfl; clear hS; intro w1 hS)
        | (apply RO.op; apply OP.buildSlice hS; rfl; rfl; (exact eqAuto); rfl; rfl; rfl; rfl; rfl; clear hS; intro b w1 hS)
        | (apply RO.op; apply OP.makeMap hS; rfl; clear hS; intro b w1 hS)
        | refine RO.yes rfl rfl ?_
        | refine RO.no rfl rfl rfl rfl ?_
        | refine RO.noUndef rfl rfl rfl ?_
        | refine RO.noNone rfl rfl rfl ?_
        | refine Run.cond_true rfl ?_
        | refine Run.cond_false rfl ?_
        | refine Run.skip ?_
        | refine Run.block ?_
        | refine Run.inBlock ?_
        | refine Run.exit rfl ?_
      refine Run.weaken (by focus ((repeat (first | exact .nil | refine .cons rfl ?_)); done)) (ih (i + 1, ov) _ ⟨by simp; omega, ?_⟩ (by simp; omega))
      simp only [e0]
      exact hS.picks (by focus ((repeat (first | apply Picks.all | apply Picks.nil | (refine Picks.cons (by repeat (first | apply Take.head | apply Take.tail)) ?_) | apply Picks.drop)); done))
    | false =>
      rw [if_pos (by simp [hcan])] at e0
      repeat' first
        | (refine RO.still (by apply Still.load; rfl; rfl; exact Rd.ro m1; exact hx1) hS rfl ?_)
        | (apply RO.op; apply OP.callF; rfl; rfl; rfl; show Cl _ 43 _ _ _; exact kcan_is hh hcan (hS.take2 (by focus ((repeat (first | apply Has.head | apply Take.head | apply Put.head | apply Has.tail | apply Take.tail | apply Put.tail)); done)) (by focus ((repeat (first | apply Has.head | apply Take.head | apply Put.head | apply Has.tail | apply Take.tail | apply Put.tail)); done))); clear hS; rintro v w1 ⟨rfl, hS⟩)
        | (apply OP.callF; rfl; rfl; rfl; show Cl _ 43 _ _ _; exact kcan_is hh hcan (hS.take2 (by focus ((repeat (first | apply Has.head | apply Take.head | apply Put.head | apply Has.tail | apply Take.tail | apply Put.tail)); done)) (by focus ((repeat (first | apply Has.head | apply Take.head | apply Put.head | apply Has.tail | apply Take.tail | apply Put.tail)); done))); clear hS; rintro v w1 ⟨rfl, hS⟩; refine ⟨(by first | exact hS | exact hS.tail | exact hS.sublist (by repeat (first | exact List.Sublist.refl _ | refine .cons_cons _ ?_ | refine .cons _ ?_))), ?_⟩)
        | (apply RO.op; apply OP.append (size := 1) (bytes := 8) (k := 1) (news := [.int .i64 y]) hS; rfl; rfl; rfl; rfl; rfl; rfl; rfl; rfl; exact (by omega); (focus ((repeat (first | apply Has.head | apply Take.head | apply Put.head | apply Has.tail | apply Take.tail | apply Put.tail)); done)); (exact Rd.any); rfl; rfl; exact (by intro v hv; simp at hv; subst hv; rfl); (exact (by unfold maxLen; omega)); (exact (by omega)); rfl
           clear hS; intro v2 w1 hS)
        | refine Run.seq ?_
        | refine Run.region ?_
        | (refine RO.split ?_ ?_ <;> intro hc <;> try (first | (exfalso; omega) | exact absurd rfl hc | exact Bool.noConfusion hc))
        | refine RO.nil ?_
        | refine RO.still (by exact Still.any) hS rfl ?_
        | (apply RO.op; apply OP.box hS; rfl; rfl; rfl; clear hS; intro b w1 hS)
        | (apply RO.op; apply OP.alloc hS; rfl; rfl; rfl; clear hS; intro b w1 hS)
        | (apply RO.op; apply OP.store hS; rfl; rfl; rfl; rfl; rfl; (focus ((repeat (first | apply Has.head | apply Take.head | apply Put.head | apply Has.tail | apply Take.tail | apply Put.tail)); done)); rfl; rfl; clear hS; intro w1 hS)
        | (apply RO.op; apply OP.buildSlice hS; rfl; rfl; (exact eqAuto); rfl; rfl; rfl; rfl; rfl; clear hS; intro b w1 hS)
        | (apply RO.op; apply OP.makeMap hS; rfl; clear hS; intro b w1 hS)
        | refine RO.yes rfl rfl ?_
        | refine RO.no rfl rfl rfl rfl ?_
        | refine RO.noUndef rfl rfl rfl ?_
        | refine RO.noNone rfl rfl rfl ?_
        | refine Run.cond_true rfl ?_
        | refine Run.cond_false rfl ?_
        | refine Run.skip ?_
        | refine Run.block ?_
        | refine Run.inBlock ?_
        | refine Run.exit rfl ?_
      refine Run.weaken (by focus ((repeat (first | exact .nil | refine .cons rfl ?_)); done)) (ih (i + 1, v2) _ ⟨by simp; omega, ?_⟩ (by simp; omega))
      simp only [e0]
      rw [List.length_append, List.flatMap_append]
      exact hS.picks (by focus ((repeat (first | apply Picks.all | apply Picks.nil | (refine Picks.cons (by repeat (first | apply Take.head | apply Take.tail)) ?_) | apply Picks.drop)); done))
  · obtain rfl : i = M.length := by omega
    rw [List.take_of_length_le (Nat.le_refl _)] at hS
    repeat' first
      | refine Run.seq ?_
      | refine Run.region ?_
      | (refine RO.split ?_ ?_ <;> intro hc <;> try (first | (exfalso; omega) | exact absurd rfl hc | exact Bool.noConfusion hc))
      | refine RO.nil ?_
      | refine RO.still (by exact Still.any) hS rfl ?_
      | (apply RO.op; apply OP.box hS; rfl; rfl; rfl; clear hS; intro b w1 hS)
      | (apply RO.op; apply OP.alloc hS; rfl; rfl; rfl; clear hS; intro b w1 hS)
      | (apply RO.op; apply OP.store hS; rfl; rfl; rfl; rfl; rfl; (focus ((repeat (first | apply Has.head | apply Take.head | apply Put.head | apply Has.tail | apply Take.tail | apply Put.tail)); done)); rfl; rfl; clear hS; intro w1 hS)
      | (apply RO.op; apply OP.buildSlice hS; rfl; rfl; (exact eqAuto); rfl; rfl; rfl; rfl; rfl; clear hS; intro b w1 hS)
      | (apply RO.op; apply OP.makeMap hS; rfl; clear hS; intro b w1 hS)
      | refine RO.yes rfl rfl ?_
      | refine RO.no rfl rfl rfl rfl ?_
      | refine RO.noUndef rfl rfl rfl ?_
      | refine RO.noNone rfl rfl rfl ?_
      | refine Run.cond_true rfl ?_
      | refine Run.cond_false rfl ?_
      | refine Run.skip ?_
      | refine Run.block ?_
      | refine Run.inBlock ?_
      | refine Run.exit rfl ?_
    refine Run.ret Try.func29 rfl (.tmp rfl .nil) ?_
    exact o1.back (hS.picks (by focus ((repeat (first | apply Picks.all | apply Picks.nil | (refine Picks.cons (by repeat (first | apply Take.head | apply Take.tail)) ?_) | apply Picks.drop)); done)))

set_option maxHeartbeats 8000000 in
theorem refShort {x : Int} {gc cc gk ck : Nat} {spc spk : List Value} (g : Good lim L) (hrt : Rt L) (hx : has L x = true) (hS : St we ρ (Row r (flat L ++ spare) 58 :: Row gc (boolsL L (can L K) ++ spc) 4 :: Row gk (boolsL L K ++ spk) 4 :: F) w) :
    Cl Try.prog 31 [raV lim r L.length cap, .slice (some ⟨gc, 0, none⟩) L.length cc, .slice (some ⟨gk, 0, none⟩) L.length ck, .int .i64 x] w fun v w' =>
      St we ρ (Vec 3 1 v (shortL L K x).length ((shortL L K x).flatMap intL) :: Row r (flat L ++ spare) 58 :: Row gc (boolsL L (can L K) ++ spc) 4 :: Row gk (boolsL L K ++ spk) 4 :: F) w' := by
  have hlim := g.lim
  have hlen := g.len
  have hx2 := has_iff.1 hx
  have hml := mixed_len g x.toNat x (Nat.le_refl _) hx2.1
  have hmh := mixed_has g x.toNat x (Nat.le_refl _) hx2.1
  have fcx : (boolsL L (can L K) ++ spc)[x.toNat]? = some (.bool (can L K x)) := boolsL_get hx
  have fkx : (boolsL L K ++ spk)[x.toNat]? = some (.bool (K x)) := boolsL_get hx
  have hsh : shortL L K x = (mixed L x).filter fun y => can L K x && !K x && !can L K y := by
    unfold shortL
    split
    · rename_i h
      rw [h.1, h.2]; simp
    · rename_i h
      symm
      rw [List.filter_eq_nil_iff]
      intro a ha
      cases h1 : can L K x <;> cases h2 : K x <;> simp [h1, h2] at h ⊢
  rw [hsh]
  obtain ⟨cx, hcx⟩ : ∃ b, can L K x = b := ⟨_, rfl⟩
  obtain ⟨kx, hkx⟩ : ∃ b, K x = b := ⟨_, rfl⟩
  simp only [hcx, hkx] at fcx fkx ⊢
  refine Run.calls4 (n := 50) Try.func31 rfl rfl rfl ?_
  repeat' first
    | (apply RO.op; apply OP.callF; rfl; rfl; rfl; show Cl _ 19 _ _ _; exact refMixed g hrt (x.toNat + 1) (fun _ => Nat.lt_succ_self _) (hS.take (by focus ((repeat (first | apply Has.head | apply Take.head | apply Put.head | apply Has.tail | apply Take.tail | apply Put.tail)); done))); clear hS; intro v w1 hS; obtain ⟨ρ1, o1, s1, hT⟩ := vec_freeze intL_length hS; clear hS; have hS := hT; clear hT; obtain ⟨pm, cm, rfl, km1, km2, _⟩ := s1.val)
    | (apply OP.callF; rfl; rfl; rfl; show Cl _ 19 _ _ _; exact refMixed g hrt (x.toNat + 1) (fun _ => Nat.lt_succ_self _) (hS.take (by focus ((repeat (first | apply Has.head | apply Take.head | apply Put.head | apply Has.tail | apply Take.tail | apply Put.tail)); done))); clear hS; intro v w1 hS; obtain ⟨ρ1, o1, s1, hT⟩ := vec_freeze intL_length hS; clear hS; have hS := hT; clear hT; obtain ⟨pm, cm, rfl, km1, km2, _⟩ := s1.val; refine ⟨(by first | exact hS | exact hS.tail | exact hS.sublist (by repeat (first | exact List.Sublist.refl _ | refine .cons_cons _ ?_ | refine .cons _ ?_))), ?_⟩)
    | refine Run.seq ?_
    | refine Run.region ?_
    | (refine RO.split ?_ ?_ <;> intro hc <;> try (first | (exfalso; omega) | exact absurd rfl hc | exact Bool.noConfusion hc))
    | refine RO.nil ?_
    | refine RO.still (by exact Still.any) hS rfl ?_
    | (apply RO.op; apply OP.box hS; rfl; rfl; rfl; clear hS; intro b w1 hS)
    | (apply RO.op; apply OP.alloc hS; rfl; rfl; rfl; clear hS; intro b w1 hS)
    | (apply RO.op; apply OP.store hS; rfl; rfl; rfl; rfl; rfl; (focus ((repeat (first | apply Has.head | apply Take.head | apply Put.head | apply Has.tail | apply Take.tail | apply Put.tail)); done)); rfl; rfl; clear hS; intro w1 hS)
    | (apply RO.op; apply OP.buildSlice hS; rfl; rfl; (exact eqAuto); rfl; rfl; rfl; rfl; rfl; clear hS; intro b w1 hS)
    | (apply RO.op; apply OP.makeMap hS; rfl; clear hS; intro b w1 hS)
    | refine RO.yes rfl rfl ?_
    | refine RO.no rfl rfl rfl rfl ?_
    | refine RO.noUndef rfl rfl rfl ?_
    | refine RO.noNone rfl rfl rfl ?_
    | refine Run.cond_true rfl ?_
    | refine Run.cond_false rfl ?_
    | refine Run.skip ?_
    | refine Run.block ?_
    | refine Run.inBlock ?_
    | refine Run.exit rfl ?_
  generalize mixed L x = M at s1 hml km1 hmh
  unfold maxLen at km2
  refine Run.while (fun q : Nat × Value => [(1, .slice (some ⟨gc, 0, none⟩) L.length cc), (2, .slice (some ⟨gk, 0, none⟩) L.length ck), (3, .int .i64 x), (9, q.2), (10, .slice pm M.length cm), (11, .int .i64 q.1)])
    (fun q w => q.1 ≤ M.length ∧ St we ρ1 (Vec 3 1 q.2 ((M.take q.1).filter fun y => cx && !kx && !can L K y).length (((M.take q.1).filter fun y => cx && !kx && !can L K y).flatMap intL) :: Row r (flat L ++ spare) 58 :: Row gc (boolsL L (can L K) ++ spc) 4 :: Row gk (boolsL L K ++ spk) 4 :: F) w) (fun q => M.length - q.1) (0, .slice none 0 0)
    ⟨by simp, (vec_nil hS).picks (by focus ((repeat (first | apply Picks.all | apply Picks.nil | (refine Picks.cons (by repeat (first | apply Take.head | apply Take.tail)) ?_) | apply Picks.drop)); done))⟩ (by focus ((repeat (first | exact .nil | refine .cons rfl ?_)); done)) ?_
  clear hS
  rintro ⟨i, ov⟩ w ⟨hi, hS⟩ ih
  simp only at hi hS ih ⊢
  by_cases hlt : i < M.length
  · obtain ⟨b1, o1', cs1, el1, f1, rfl, m1, hx1⟩ := s1.int hlt
    have e0 := filter_snoc (p := fun y => cx && !kx && !can L K y) hlt
    have hol : ((M.take i).filter fun y => cx && !kx && !can L K y).length ≤ 65536 := by
      have := List.length_filter_le (fun y => cx && !kx && !can L K y) (M.take i)
      rw [List.length_take] at this
      omega
    have hmy := hmh M[i] (List.getElem_mem hlt)
    generalize M[i] = y at hx1 e0 hmy
    generalize (M.take i).filter (fun y => cx && !kx && !can L K y) = out at hS e0 hol
    have hy2 := has_iff.1 hmy
    have fcy : (boolsL L (can L K) ++ spc)[y.toNat]? = some (.bool (can L K y)) := boolsL_get hmy
    obtain ⟨cy, hcy⟩ : ∃ b, can L K y = b := ⟨_, rfl⟩
    rw [hcy] at fcy
    simp only [hcy] at e0
    have hcs : cx = false ∨ (cx = true ∧ kx = true) ∨ (cx = true ∧ kx = false ∧ cy = true) ∨ (cx = true ∧ kx = false ∧ cy = false) := by cases cx <;> cases kx <;> cases cy <;> simp
    rcases hcs with rfl | ⟨rfl, rfl⟩ | ⟨rfl, rfl, rfl⟩ | ⟨rfl, rfl, rfl⟩
    rotate_right
    · rw [if_pos (by rfl)] at e0
      repeat' first
        | (refine RO.still (by apply Still.load; rfl; rfl; exact Rd.ro m1; exact hx1) hS rfl ?_)
        | (refine RO.still (by apply Still.load; rfl; rfl; (exact Rd.any); exact fcx) hS rfl ?_)
        | (refine RO.still (by apply Still.load; rfl; rfl; (exact Rd.any); exact fkx) hS rfl ?_)
        | (refine RO.still (by apply Still.load; rfl; rfl; (exact Rd.any); exact fcy) hS rfl ?_)
        | (apply RO.op; apply OP.append (size := 1) (bytes := 8) (k := 1) (news := [.int .i64 y]) hS; rfl; rfl; rfl; rfl; rfl; rfl; rfl; rfl; exact (by omega); (focus ((repeat (first | apply Has.head | apply Take.head | apply Put.head | apply Has.tail | apply Take.tail | apply Put.tail)); done)); (exact Rd.any); rfl; rfl; exact (by intro v hv; simp at hv; subst hv; rfl); (exact (by unfold maxLen; omega)); (exact (by omega)); rfl
           clear hS; intro v2 w1 hS)
        | refine Run.seq ?_
        | refine Run.region ?_
        | (refine RO.split ?_ ?_ <;> intro hc <;> try (first | (exfalso; omega) | exact absurd rfl hc | exact Bool.noConfusion hc))
        | refine RO.nil ?_
        | refine RO.still (by exact Still.any) hS rfl ?_
        | (apply RO.op; apply OP.box hS; rfl; rfl; rfl; clear hS; intro b w1 hS)
        | (apply RO.op; apply OP.alloc hS; rfl; rfl; rfl; clear hS; intro b w1 hS)
        | (apply RO.op; apply OP.store hS; rfl; rfl; rfl; rfl; rfl; (focus ((repeat (first | apply Has.head | apply Take.head | apply Put.head | apply Has.tail | apply Take.tail | apply Put.tail)); done)); rfl; rfl; clear hS; intro w1 hS)
        | (apply RO.op; apply OP.buildSlice hS; rfl; rfl; (exact eqAuto); rfl; rfl; rfl; rfl; rfl; clear hS; intro b w1 hS)
        | (apply RO.op; apply OP.makeMap hS; rfl; clear hS; intro b w1 hS)
        | refine RO.yes rfl rfl ?_
        | refine RO.no rfl rfl rfl rfl ?_
        | refine RO.noUndef rfl rfl rfl ?_
        | refine RO.noNone rfl rfl rfl ?_
        | refine Run.cond_true rfl ?_
        | refine Run.cond_false rfl ?_
        | refine Run.skip ?_
        | refine Run.block ?_
        | refine Run.inBlock ?_
        | refine Run.exit rfl ?_
      refine Run.weaken (by focus ((repeat (first | exact .nil | refine .cons rfl ?_)); done)) (ih (i + 1, v2) _ ⟨by simp; omega, ?_⟩ (by simp; omega))
      simp only [e0]
      rw [List.length_append, List.flatMap_append]
      exact hS.picks (by focus ((repeat (first | apply Picks.all | apply Picks.nil | (refine Picks.cons (by repeat (first | apply Take.head | apply Take.tail)) ?_) | apply Picks.drop)); done))
    all_goals
      rw [if_neg (by simp), List.append_nil] at e0
      repeat' first
        | (refine RO.still (by apply Still.load; rfl; rfl; exact Rd.ro m1; exact hx1) hS rfl ?_)
        | (refine RO.still (by apply Still.load; rfl; rfl; (exact Rd.any); exact fcx) hS rfl ?_)
        | (refine RO.still (by apply Still.load; rfl; rfl; (exact Rd.any); exact fkx) hS rfl ?_)
        | (refine RO.still (by apply Still.load; rfl; rfl; (exact Rd.any); exact fcy) hS rfl ?_)
        | refine Run.seq ?_
        | refine Run.region ?_
        | (refine RO.split ?_ ?_ <;> intro hc <;> try (first | (exfalso; omega) | exact absurd rfl hc | exact Bool.noConfusion hc))
        | refine RO.nil ?_
        | refine RO.still (by exact Still.any) hS rfl ?_
        | (apply RO.op; apply OP.box hS; rfl; rfl; rfl; clear hS; intro b w1 hS)
        | (apply RO.op; apply OP.alloc hS; rfl; rfl; rfl; clear hS; intro b w1 hS)
        | (apply RO.op; apply OP.store hS; rfl; rfl; rfl; rfl; rfl; (focus ((repeat (first | apply Has.head | apply Take.head | apply Put.head | apply Has.tail | apply Take.tail | apply Put.tail)); done)); rfl; rfl; clear hS; intro w1 hS)
        | (apply RO.op; apply OP.buildSlice hS; rfl; rfl; (exact eqAuto); rfl; rfl; rfl; rfl; rfl; clear hS; intro b w1 hS)
        | (apply RO.op; apply OP.makeMap hS; rfl; clear hS; intro b w1 hS)
        | refine RO.yes rfl rfl ?_
        | refine RO.no rfl rfl rfl rfl ?_
        | refine RO.noUndef rfl rfl rfl ?_
        | refine RO.noNone rfl rfl rfl ?_
        | refine Run.cond_true rfl ?_
        | refine Run.cond_false rfl ?_
        | refine Run.skip ?_
        | refine Run.block ?_
        | refine Run.inBlock ?_
        | refine Run.exit rfl ?_
      refine Run.weaken (by focus ((repeat (first | exact .nil | refine .cons rfl ?_)); done)) (ih (i + 1, ov) _ ⟨by simp; omega, ?_⟩ (by simp; omega))
      simp only [e0]
      exact hS.picks (by focus ((repeat (first | apply Picks.all | apply Picks.nil | (refine Picks.cons (by repeat (first | apply Take.head | apply Take.tail)) ?_) | apply Picks.drop)); done))
  · obtain rfl : i = M.length := by omega
    rw [List.take_of_length_le (Nat.le_refl _)] at hS
    repeat' first
      | refine Run.seq ?_
      | refine Run.region ?_
      | (refine RO.split ?_ ?_ <;> intro hc <;> try (first | (exfalso; omega) | exact absurd rfl hc | exact Bool.noConfusion hc))
      | refine RO.nil ?_
      | refine RO.still (by exact Still.any) hS rfl ?_
      | (apply RO.op; apply OP.box hS; rfl; rfl; rfl; clear hS; intro b w1 hS)
      | (apply RO.op; apply OP.alloc hS; rfl; rfl; rfl; clear hS; intro b w1 hS)
      | (apply RO.op; apply OP.store hS; rfl; rfl; rfl; rfl; rfl; (focus ((repeat (first | apply Has.head | apply Take.head | apply Put.head | apply Has.tail | apply Take.tail | apply Put.tail)); done)); rfl; rfl; clear hS; intro w1 hS)
      | (apply RO.op; apply OP.buildSlice hS; rfl; rfl; (exact eqAuto); rfl; rfl; rfl; rfl; rfl; clear hS; intro b w1 hS)
      | (apply RO.op; apply OP.makeMap hS; rfl; clear hS; intro b w1 hS)
      | refine RO.yes rfl rfl ?_
      | refine RO.no rfl rfl rfl rfl ?_
      | refine RO.noUndef rfl rfl rfl ?_
      | refine RO.noNone rfl rfl rfl ?_
      | refine Run.cond_true rfl ?_
      | refine Run.cond_false rfl ?_
      | refine Run.skip ?_
      | refine Run.block ?_
      | refine Run.inBlock ?_
      | refine Run.exit rfl ?_
    refine Run.ret Try.func31 rfl (.tmp rfl .nil) ?_
    exact o1.back (hS.picks (by focus ((repeat (first | apply Picks.all | apply Picks.nil | (refine Picks.cons (by repeat (first | apply Take.head | apply Take.tail)) ?_) | apply Picks.drop)); done)))
end
end Go.Proofs.Ytcigkkedffggiaa
