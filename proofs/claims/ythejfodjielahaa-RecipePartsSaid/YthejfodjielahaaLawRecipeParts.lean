/-
  The parts of a ciphertext and of a pair that a recipe makes are what they were made of: undertonelaw04.RecipeParts is true.
-/
import Derived.Test.YthejfodjielahaaLawRecipeCans
import Derived.Test.YthejfodjielahaaRecipeMore
namespace Go.Proofs.Ythejfodjielahaa
set_option maxRecDepth 8000
set_option linter.unusedSimpArgs false
set_option linter.unusedVariables false
open Go Go.RowKit

section
variable {we w : World} {ρ : List (Nat × Obj)} {σ F : List HP} {p lim : Nat} {L : List Nd}

theorem u64_bounds {x : Int} (h : (Lit.int .u64 x).wf = true) : 0 ≤ x ∧ x ≤ 18446744073709551615 := by
  simp [Lit.wf, IntKind.min, IntKind.max, IntKind.signed, IntKind.bits] at h
  omega

theorem mk_go {lim : Nat} {L : List Nd} (g : Good lim L) {n : Nd} (hr : right L n = true) (hl : L.length < lim) :
    ∃ L' x, mk lim L n = (L', x, 0) ∧ Good lim L' ∧ has L' x = true ∧ nd L' x = n ∧ L'.length ≤ L.length + 1 ∧ ∃ M, L' = L ++ M := by
  rcases mk_cases lim L n with ⟨e, h⟩ | ⟨i, e, _⟩ | ⟨e, _, _, h⟩ | ⟨e, _⟩
  · rw [hr] at h; cases h
  · have he : (mk lim L n).2.2 = 0 := by rw [e]
    obtain ⟨h1, h2⟩ := mk_made he
    exact ⟨_, _, Prod.ext rfl (Prod.ext rfl he), mk_good g n, h1, h2, by rw [e]; simp, mk_prefix lim L n⟩
  · omega
  · have he : (mk lim L n).2.2 = 0 := by rw [e]
    obtain ⟨h1, h2⟩ := mk_made he
    exact ⟨_, _, Prod.ext rfl (Prod.ext rfl he), mk_good g n, h1, h2, by rw [e]; simp, mk_prefix lim L n⟩

def partSteps (x y n : Int) : List Stp := [⟨1, x, 0, 0, 0⟩, ⟨1, y, 0, 0, 0⟩, ⟨8, 0, 0, 1, 0⟩, ⟨7, n, 1, 0, 2⟩, ⟨12, 0, 3, 1, 0⟩, ⟨10, 0, 4, 0, 0⟩, ⟨11, 0, 4, 0, 0⟩]

theorem parts_yes {lim : Nat} {L : List Nd} {heard : List Int} (g : Good lim L) (hl : L.length + 4 ≤ lim) {x y n : Int} (hx : x < 1048576) (hy : y < 1048576) :
    ∃ L' a b c d, runS lim heard (partSteps x y n) L [] 0 = (L', [a, b, c, d, c, a, b], 0, 0) := by
  obtain ⟨L1, a, m1, g1, h1, n1, l1, M1, e1⟩ := mk_go g (n := ⟨1, 4294967296 + x, 0, 0, 0⟩) (right_four (by omega) (by simp [numbered]) (by simp [many]) (by simp [many]) (by simp [many]) (by omega)) (by omega)
  obtain ⟨L2, b, m2, g2, h2, n2, l2, M2, e2⟩ := mk_go g1 (n := ⟨1, 4294967296 + y, 0, 0, 0⟩) (right_four (by omega) (by simp [numbered]) (by simp [many]) (by simp [many]) (by simp [many]) (by omega)) (by omega)
  have h1b : has L2 a = true := by rw [e2]; exact has_append h1
  obtain ⟨L3, c, m3, g3, h3, n3, l3, M3, e3⟩ := mk_go g2 (n := ⟨8, 0, a, b, 0⟩) (right_four (by omega) (by simp [numbered]) (by simp [many, h1b]) (by simp [many, h2]) (by simp [many]) (by omega)) (by omega)
  have h1c : has L3 a = true := by rw [e3]; exact has_append h1b
  have h2c : has L3 b = true := by rw [e3]; exact has_append h2
  obtain ⟨L4, d, m4, g4, h4, n4, l4, M4, e4⟩ := mk_go g3 (n := ⟨7, n, b, a, c⟩) (right_four (by omega) (by simp [numbered]) (by simp [many, h2c]) (by simp [many, h1c]) (by simp [many, h3]) (by omega)) (by omega)
  have n3d : nd L4 c = ⟨8, 0, a, b, 0⟩ := by rw [e4, nd_append h3, n3]
  have s1 : oneS lim L heard [] ⟨1, x, 0, 0, 0⟩ = (L1, a, 0) := by rw [← m1]; simp [oneS, aheadS, hx]
  have s2 : oneS lim L1 heard [a] ⟨1, y, 0, 0, 0⟩ = (L2, b, 0) := by rw [← m2]; simp [oneS, aheadS, hy]
  have s3 : oneS lim L2 heard [a, b] ⟨8, 0, 0, 1, 0⟩ = (L3, c, 0) := by rw [← m3]; simp [oneS, aheadS, ahd, mde]
  have s4 : oneS lim L3 heard [a, b, c] ⟨7, n, 1, 0, 2⟩ = (L4, d, 0) := by rw [← m4]; simp [oneS, aheadS, ahd, mde]
  have s5 : oneS lim L4 heard [a, b, c, d] ⟨12, 0, 3, 1, 0⟩ = (L4, c, 0) := by simp [oneS, aheadS, ahd, mde, takenOf, n4]
  have s6 : oneS lim L4 heard [a, b, c, d, c] ⟨10, 0, 4, 0, 0⟩ = (L4, a, 0) := by simp [oneS, aheadS, ahd, mde, takenOf, n3d]
  have s7 : oneS lim L4 heard [a, b, c, d, c, a] ⟨11, 0, 4, 0, 0⟩ = (L4, b, 0) := by simp [oneS, aheadS, ahd, mde, takenOf, n3d]
  refine ⟨L4, a, b, c, d, ?_⟩
  unfold partSteps
  rw [runS_yes (by rw [s1]), s1]
  show runS lim heard _ L1 [a] _ = _
  rw [runS_yes (by rw [s2]), s2]
  show runS lim heard _ L2 [a, b] _ = _
  rw [runS_yes (by rw [s3]), s3]
  show runS lim heard _ L3 [a, b, c] _ = _
  rw [runS_yes (by rw [s4]), s4]
  show runS lim heard _ L4 [a, b, c, d] _ = _
  rw [runS_yes (by rw [s5]), s5]
  show runS lim heard _ L4 [a, b, c, d, c] _ = _
  rw [runS_yes (by rw [s6]), s6]
  show runS lim heard _ L4 [a, b, c, d, c, a] _ = _
  rw [runS_yes (by rw [s7]), s7]
  rfl
theorem parts_no {lim : Nat} {L : List Nd} {heard : List Int} (g : Good lim L) (hl : L.length + 4 ≤ lim) {x y n : Int} (h : ¬ (x < 1048576 ∧ y < 1048576)) :
    ∃ L' i, runS lim heard (partSteps x y n) L [] 0 = (L', [], i, 12) := by
  unfold partSteps
  by_cases hx : x < 1048576
  · have hy : ¬ y < 1048576 := fun hy => h ⟨hx, hy⟩
    obtain ⟨L1, a, m1, g1, h1, n1, l1, M1, e1⟩ := mk_go g (n := ⟨1, 4294967296 + x, 0, 0, 0⟩) (right_four (by omega) (by simp [numbered]) (by simp [many]) (by simp [many]) (by simp [many]) (by omega)) (by omega)
    have s1 : oneS lim L heard [] ⟨1, x, 0, 0, 0⟩ = (L1, a, 0) := by rw [← m1]; simp [oneS, aheadS, hx]
    have s2 : oneS lim L1 heard [a] ⟨1, y, 0, 0, 0⟩ = (L1, 0, 12) := by simp [oneS, hy]
    rw [runS_yes (by rw [s1]), s1]
    show ∃ L' i, runS lim heard _ L1 [a] _ = _
    rw [runS_no (by rw [s2]; simp), s2]
    exact ⟨_, _, rfl⟩
  · have s1 : oneS lim L heard [] ⟨1, x, 0, 0, 0⟩ = (L, 0, 12) := by simp [oneS, hx]
    rw [runS_no (by rw [s1]; simp), s1]
    exact ⟨_, _, rfl⟩

set_option maxHeartbeats 8000000 in
theorem recipeParts_law {x y n : Int} (hx0 : (Lit.int .u64 x).wf = true) (hy0 : (Lit.int .u64 y).wf = true) (hn0 : (Lit.int .u64 n).wf = true) (hS : St we ρ σ w) :
    Cl Try.prog 5 [.int .u64 x, .int .u64 y, .int .u64 n] w fun v w' => v = .bool true ∧ St we ρ σ w' := by
  have hx := u64_bounds hx0
  have hy := u64_bounds hy0
  have hn := u64_bounds hn0
  clear hx0 hy0 hn0
  have g : Good (room 50) [Nd.z] := room_good 50
  have hroom : room 50 = 50 := rfl
  have hrun : ∀ {ρ : List (Nat × Obj)} {w : World} {b kb p : Nat} {G : List HP}, St we ρ (Row b ((partSteps x y n).flatMap stpL) 41 :: KN kb p [] (fun _ => false) :: Arena p (room 50) [Nd.z] :: G) w → _ := fun {ρ w b kb p G} hS =>
    run_row (ρ := ρ) (w := w) (b := b) (kb := kb) (p := p) (F := G) (n := 7) (l := partSteps x y n) rfl (by omega) g (by
      intro s hs
      simp only [partSteps, List.mem_cons, List.not_mem_nil, or_false] at hs
      rcases hs with rfl | rfl | rfl | rfl | rfl | rfl | rfl <;> simp only <;> omega) (by simp) (fun x hx => by cases hx) hS
  refine Run.calls3 (n := 90) Try.func5 rfl rfl rfl ?_
  by_cases h : x < 1048576 ∧ y < 1048576
  · obtain ⟨L', ra, rb, rc, rd, hR⟩ := parts_yes (lim := room 50) (L := [Nd.z]) (heard := []) g (by rw [hroom]; decide) (n := n) h.1 h.2
    simp only [hR] at hrun
    obtain ⟨h1, h2⟩ := h
    have hroom2 := hroom
    repeat' first
      | (apply RO.op; apply OP.callF; rfl; rfl; rfl; show Cl _ 14 _ _ _; exact new_calls hS; clear hS; rintro v w1 ⟨p, rfl, hS⟩)
      | (apply OP.callF; rfl; rfl; rfl; show Cl _ 14 _ _ _; exact new_calls hS; clear hS; rintro v w1 ⟨p, rfl, hS⟩; refine ⟨(by first | exact hS | exact hS.tail | exact hS.sublist (by repeat (first | exact List.Sublist.refl _ | refine .cons_cons _ ?_ | refine .cons _ ?_))), ?_⟩)
      | (apply RO.op; apply OP.callF; rfl; rfl; rfl; show Cl _ 15 _ _ _; exact knew_calls hS; clear hS; rintro v w1 ⟨kb, rfl, hS⟩)
      | (apply OP.callF; rfl; rfl; rfl; show Cl _ 15 _ _ _; exact knew_calls hS; clear hS; rintro v w1 ⟨kb, rfl, hS⟩; refine ⟨(by first | exact hS | exact hS.tail | exact hS.sublist (by repeat (first | exact List.Sublist.refl _ | refine .cons_cons _ ?_ | refine .cons _ ?_))), ?_⟩)
      | (apply RO.op; apply OP.callF; rfl; rfl; rfl; show Cl _ 11 _ _ _; exact hrun hS; clear hS; rintro v w1 ⟨mv, rfl, hS⟩; obtain ⟨g1, cap1, sp1, rfl, hT⟩ := vec_ints (l := [ra, rb, rc, rd, rc, ra, rb]) (by simp) hS; clear hS; have hS := hT; clear hT)
      | (apply OP.callF; rfl; rfl; rfl; show Cl _ 11 _ _ _; exact hrun hS; clear hS; rintro v w1 ⟨mv, rfl, hS⟩; obtain ⟨g1, cap1, sp1, rfl, hT⟩ := vec_ints (l := [ra, rb, rc, rd, rc, ra, rb]) (by simp) hS; clear hS; have hS := hT; clear hT; refine ⟨(by first | exact hS | exact hS.tail | exact hS.sublist (by repeat (first | exact List.Sublist.refl _ | refine .cons_cons _ ?_ | refine .cons _ ?_))), ?_⟩)
      | (refine Run.regionQ_of hS (by rfl) (by kernel_rfl) ?_; clear hS)
      | (apply RQ.callF; rfl; rfl; rfl; (show ∀ w, _ → Cl _ 9 _ _ _; exact fun w hS => rawake_calls hS))
      | (refine RQ.split ?_ ?_ <;> intro hc <;> try (first | (exfalso; omega) | exact absurd rfl hc | exact Bool.noConfusion hc))
      | (refine RQ.nil ?_; (try clear hS); intro w1 hS)
      | refine RQ.still (by exact Still.any) rfl ?_
      | refine RQ.yes rfl rfl ?_
      | refine RQ.no rfl rfl rfl rfl ?_
      | refine RQ.noUndef rfl rfl rfl ?_
      | refine Run.seq ?_
      | refine Run.region ?_
      | (refine RO.split ?_ ?_ <;> intro hc <;> try (first | (exfalso; omega) | exact absurd rfl hc | exact Bool.noConfusion hc))
      | refine RO.nil ?_
      | refine RO.still (by exact Still.any) hS rfl ?_
      | (apply RO.op; apply OP.box hS; rfl; rfl; rfl; clear hS; intro b w1 hS)
      | (apply RO.op; apply OP.alloc hS; rfl; rfl; rfl; clear hS; intro b w1 hS)
      | (apply RO.op; apply OP.store hS; rfl; rfl; rfl; rfl; rfl; (focus ((repeat (first | apply Has.head | apply Take.head | apply Put.head | apply Has.tail | apply Take.tail | apply Put.tail)); done)); rfl; rfl; clear hS; intro w1 hS)
      | (apply RO.op; apply OP.buildSlice hS; rfl; rfl; (exact eqAuto); rfl; rfl; rfl; rfl; rfl; clear hS; intro b w1 hS)
      | (apply RO.op; apply OP.makeMap hS; rfl; clear hS; intro b w1 hS)
      | refine RO.yes rfl rfl ?_
      | refine RO.no rfl rfl rfl rfl ?_
      | refine RO.noUndef rfl rfl rfl ?_
      | refine RO.noNone rfl rfl rfl ?_
      | refine Run.cond_true rfl ?_
      | refine Run.cond_false rfl ?_
      | refine Run.skip ?_
      | refine Run.block ?_
      | refine Run.inBlock ?_
      | refine Run.exit rfl ?_
    all_goals
      refine Run.ret Try.func5 rfl (.tmp rfl .nil) ?_
      exact ⟨rfl, hS.picks (by focus ((repeat (first | apply Picks.all | apply Picks.nil | (refine Picks.cons (by repeat (first | apply Take.head | apply Take.tail)) ?_) | apply Picks.drop)); done))⟩
  · obtain ⟨L', i, hR⟩ := parts_no (lim := room 50) (L := [Nd.z]) (heard := []) g (by rw [hroom]; decide) (n := n) h
    simp only [hR] at hrun
    repeat' first
      | (apply RO.op; apply OP.callF; rfl; rfl; rfl; show Cl _ 14 _ _ _; exact new_calls hS; clear hS; rintro v w1 ⟨p, rfl, hS⟩)
      | (apply OP.callF; rfl; rfl; rfl; show Cl _ 14 _ _ _; exact new_calls hS; clear hS; rintro v w1 ⟨p, rfl, hS⟩; refine ⟨(by first | exact hS | exact hS.tail | exact hS.sublist (by repeat (first | exact List.Sublist.refl _ | refine .cons_cons _ ?_ | refine .cons _ ?_))), ?_⟩)
      | (apply RO.op; apply OP.callF; rfl; rfl; rfl; show Cl _ 15 _ _ _; exact knew_calls hS; clear hS; rintro v w1 ⟨kb, rfl, hS⟩)
      | (apply OP.callF; rfl; rfl; rfl; show Cl _ 15 _ _ _; exact knew_calls hS; clear hS; rintro v w1 ⟨kb, rfl, hS⟩; refine ⟨(by first | exact hS | exact hS.tail | exact hS.sublist (by repeat (first | exact List.Sublist.refl _ | refine .cons_cons _ ?_ | refine .cons _ ?_))), ?_⟩)
      | (apply RO.op; apply OP.callF; rfl; rfl; rfl; show Cl _ 11 _ _ _; exact hrun hS; clear hS; rintro v w1 ⟨mv, rfl, hS⟩; obtain ⟨ρ2, o2, s2, hT⟩ := vec_freeze (l := ([] : List Int)) intL_length hS; obtain ⟨sp4, cap4, rfl, hle4, hcm4, -⟩ := s2.val; clear hS; have hS := hT; clear hT)
      | (apply OP.callF; rfl; rfl; rfl; show Cl _ 11 _ _ _; exact hrun hS; clear hS; rintro v w1 ⟨mv, rfl, hS⟩; obtain ⟨ρ2, o2, s2, hT⟩ := vec_freeze (l := ([] : List Int)) intL_length hS; obtain ⟨sp4, cap4, rfl, hle4, hcm4, -⟩ := s2.val; clear hS; have hS := hT; clear hT; refine ⟨(by first | exact hS | exact hS.tail | exact hS.sublist (by repeat (first | exact List.Sublist.refl _ | refine .cons_cons _ ?_ | refine .cons _ ?_))), ?_⟩)
      | (apply RO.op; apply OP.callF; rfl; rfl; rfl; show Cl _ 9 _ _ _; exact rawake_calls hS; clear hS; rintro v w1 ⟨rfl, hS⟩)
      | (apply OP.callF; rfl; rfl; rfl; show Cl _ 9 _ _ _; exact rawake_calls hS; clear hS; rintro v w1 ⟨rfl, hS⟩; refine ⟨(by first | exact hS | exact hS.tail | exact hS.sublist (by repeat (first | exact List.Sublist.refl _ | refine .cons_cons _ ?_ | refine .cons _ ?_))), ?_⟩)
      | refine Run.seq ?_
      | refine Run.region ?_
      | (refine RO.split ?_ ?_ <;> intro hc <;> try (first | (exfalso; omega) | exact absurd rfl hc | exact Bool.noConfusion hc))
      | refine RO.nil ?_
      | refine RO.still (by exact Still.any) hS rfl ?_
      | (apply RO.op; apply OP.box hS; rfl; rfl; rfl; clear hS; intro b w1 hS)
      | (apply RO.op; apply OP.alloc hS; rfl; rfl; rfl; clear hS; intro b w1 hS)
      | (apply RO.op; apply OP.store hS; rfl; rfl; rfl; rfl; rfl; (focus ((repeat (first | apply Has.head | apply Take.head | apply Put.head | apply Has.tail | apply Take.tail | apply Put.tail)); done)); rfl; rfl; clear hS; intro w1 hS)
      | (apply RO.op; apply OP.buildSlice hS; rfl; rfl; (exact eqAuto); rfl; rfl; rfl; rfl; rfl; clear hS; intro b w1 hS)
      | (apply RO.op; apply OP.makeMap hS; rfl; clear hS; intro b w1 hS)
      | refine RO.yes rfl rfl ?_
      | refine RO.no rfl rfl rfl rfl ?_
      | refine RO.noUndef rfl rfl rfl ?_
      | refine RO.noNone rfl rfl rfl ?_
      | refine Run.cond_true rfl ?_
      | refine Run.cond_false rfl ?_
      | refine Run.skip ?_
      | refine Run.block ?_
      | refine Run.inBlock ?_
      | refine Run.exit rfl ?_
    all_goals
      refine Run.ret Try.func5 rfl (.tmp rfl .nil) ?_
      exact ⟨rfl, o2.back (hS.picks (by focus ((repeat (first | apply Picks.all | apply Picks.nil | (refine Picks.cons (by repeat (first | apply Take.head | apply Take.tail)) ?_) | apply Picks.drop)); done)))⟩
end
end Go.Proofs.Ythejfodjielahaa
